/- ref02: Add, Sub, Mul, Cmp, Make, Frac, Int. -/
import Derived.Test.YtnniljlepppdpaaGreatB30
set_option linter.unusedVariables false
namespace Go.Am.B
open Go Go.Am.N AV
theorem adX:aR P vO Cl (az Cl):=aS Proofs.Tryz.func25 ag ag ag
theorem Vj:aR P DR E7 (az E7):=aS Proofs.Tryz.func23 ag ag ag
theorem ago:aR P BS AP (az AP):=aS Proofs.Tryz.func78 ag ag ag
theorem ahf:aR P A8 FE (az FE):=aS Proofs.Tryz.func19 ag ag ag
theorem XM:aR P E5 Fl (az Fl):=aS Proofs.Tryz.func178 ag ag ag
theorem Zt:aR P sN BZ (az BZ):=aS Proofs.Tryz.func73 ag ag ag
theorem alL:aR P rC FL (az FL):=aS Proofs.Tryz.func21 ag ag ag
def tQ:aX:=[(AL,Mq),(zK,Kt),(A9,OR),(Du,NU),(sq,Au),(B4,MV),(vI,MN),(zk,HM),(A0,MZ)]
def Pu:Spec:=bU fun l=>match l with
 |[.int .i64 x,.int .i64 y]=>some (aK (.tuple [.rat ((x:Rat)/(y:Rat)) 64,.int .i64 (if y=0 then 3 else 0)]) [-2^63<=x,x<2^63,-2^63<=y,y<2^63])
 |_=>none
def Rm:Spec:=bU fun l=>match l with
 |[.rat q n,.rat r m]=>some (aK (.rat (q+r) (n+m+1)) [n<2^41,m<2^41])
 |_=>none
def Iz:aX:=[(vO,Rm),(zk,HM),(E5,Pu)]
theorem wg:bq P tQ:=aH agP (aH Qz (aH acB (aH ZT (aH Bb (aH ak3 (aH Uw (aH Rn (aH ajY bC))))))))
theorem alD {q r:Rat} {n m:Nat}:bS T tQ [15,20,41,52] 60 Cl (az Cl) ⟨aP 0 [.rat q n,.rat r m],[],0⟩=
  let c10:Bool:=decide (r<0);let c9:Nat:=2^38;let c8:Nat:=q.den*r.den;let c7:Bool:=decide (q<0);let c6:Nat:=2^39;let c5:Nat:=2^40;let c3:Nat:=q.num.natAbs*r.den;let c2:Nat:=r.num.natAbs*q.den;let c1:Prop:=0<1;let c4:List Prop:=[nl c8<c9,c8≠0,c1];some (ah.aj [c1] (ah.fork ((↑(nl q.num.natAbs):Int)==(0:Int)) (ah.aj [c1,c1] (ah.aj [c1] (ah.leaf aq.ret [rat r m]))) (ah.aj [c1] (ah.fork ((↑(nl r.num.natAbs):Int)==(0:Int)) (ah.aj [c1,c1] (ah.aj [c1] (ah.leaf aq.ret [rat q n]))) (ah.aj [c1,c1,nl q.num.natAbs<c6,nl r.den<c6,c1,c1,nl r.num.natAbs<c6,nl q.den<c6] (ah.aj [c1,c1,nl q.den<c6,nl r.den<c6] (ah.aj [c1,c1] (ah.fork (c7==c10) (ah.aj (c1::(nl c3<c5)::(nl c2<c5)::(nl (c3+c2)<c9)::c4) (ah.aj [c1] (ah.leaf aq.ret [rat (sQ c7 (c3+c2) c8) (cR (sQ c7 (c3+c2) c8))]))) (ah.aj [nl c3<c5,nl c2<c5] (ah.fork (decide (cZ c3 c2<(0:Int))) (ah.aj [nl c2<c5,nl c3<c5] (ah.aj (c1::(nl (c2-c3)<c9)::c4) (ah.aj [c1] (ah.leaf aq.ret [rat (sQ c10 (c2-c3) c8) (cR (sQ c10 (c2-c3) c8))])))) (ah.aj [nl c3<c5,nl c2<c5] (ah.aj (c1::(nl (c3-c2)<c9)::c4) (ah.aj [c1] (ah.leaf aq.ret [rat (sQ c7 (c3-c2) c8) (cR (sQ c7 (c3-c2) c8))])))))))))))))):=ag
theorem aff {q r:Rat} {n m:Nat}:bS T tQ [] 60 AP (az AP) ⟨aP 0 [.rat q n,.rat r m],[],0⟩=
  let c4:Nat:=q.num.natAbs*r.num.natAbs;let c3:Nat:=2^39;let c1:Prop:=0<1;let c2:Rat:=sQ (decide (q<0)!=decide (r<0)) c4 (q.den*r.den);some (ah.aj [c1,c1,c1,c1,nl q.num.natAbs<c3,nl r.num.natAbs<c3,c1,c1,nl q.den<c3,nl r.den<c3,nl c4<2^38,nl (q.den*r.den)<2^38,q.den*r.den≠0,c1] (ah.aj [c1] (ah.leaf aq.ret [rat c2 (cR c2)]))):=ag
theorem alN {q r:Rat} {n m:Nat}:bS T tQ [14,17,30] 60 FE (az FE) ⟨aP 0 [.rat q n,.rat r m],[],0⟩=
  let c3 : Int := cZ (q.num.natAbs * r.den) (r.num.natAbs * q.den); let c2 : Nat := 2 ^ 39; let c1 : Prop := 0 < 1; some (ah.aj [c1, c1] (ah.fork (fy q != fy r) (ah.fork (decide (fy q < fy r)) (ah.leaf aq.ret [int IntKind.i64 (-1 : Int)]) (ah.leaf aq.ret [int IntKind.i64 (1 : Int)])) (ah.aj [c1, c1, nl q.num.natAbs < c2, nl r.den < c2, c1, c1, nl r.num.natAbs < c2, nl q.den < c2, nl (q.num.natAbs * r.den) < 2 ^ 40, nl (r.num.natAbs * q.den) < 2 ^ 40] (ah.aj [c1] (ah.fork (decide (q < 0)) (ah.leaf aq.ret [int IntKind.i64 (IntKind.i64.wrap ((0 : Int) - c3))]) (ah.leaf aq.ret [int IntKind.i64 c3])))))) := ag
theorem WN {x y:Int}:bS T tQ [11] 60 Fl (az Fl) ⟨aP 0 [.int .i64 x,.int .i64 y],[],0⟩=
  let c3:List Prop:=[(0:Nat)<1];let c2:Int:=(2:Int)^63;let c1:Rat:=sQ (decide (x<(0:Int))!=decide (y<(0:Int))) x.natAbs y.natAbs;some (ah.fork (y==(0:Int)) (ah.aj c3 (ah.aj c3 (ah.leaf aq.ret [agg [AV.bool false,mag 0,mag 0],int IntKind.i64 (3:Int)]))) (ah.aj [-c2<=x,x<c2] (ah.aj [-c2<=y,y<c2] (ah.aj ((nl x.natAbs<2^38)::(nl y.natAbs<2^38)::(y.natAbs≠0)::c3) (ah.aj c3 (ah.leaf aq.ret [rat c1 (cR c1),int IntKind.i64 (0:Int)])))))):=ag
theorem adq {x:Int}:bS T tQ [] 60 FL (az FL) ⟨aP 0 [.int .i64 x],[],0⟩=
  some (ah.aj [-(2:Int)^63<=x,x<(2:Int)^63] (ah.aj [(0:Nat)<1] (ah.aj [(0:Nat)<1] (ah.leaf aq.ret [agg [AV.bool (decide (x<(0:Int))),mag x.natAbs,mag 0]])))):=ag
theorem am2 {q r:Rat} {n m:Nat}:bS T Iz [] 60 E7 (az E7) ⟨aP 0 [.rat q n,.rat r m],[],0⟩=
  let c1:Prop:=0<1;some (ah.aj [c1,c1,n<2^41,m<2^41,c1] (ah.aj [c1] (ah.leaf aq.ret [rat (q+-r) (n+m+1)]))):=ag
theorem Xc {x y:Int}:bS T Iz [] 60 BZ (az BZ) ⟨aP 0 [.int .i64 x,.int .i64 y],[],0⟩=
  let c2:Prop:=0<1;let c1:Int:=(2:Int)^63;some (ah.aj [-c1<=x,x<c1,-c1<=y,y<c1,c2] (ah.aj [c2,c2] (ah.aj [c2] (ah.leaf aq.ret [rat ((↑x:Rat)/(↑y:Rat)) 64])))):=ag
theorem gb {N n:Nat} (h:N<2^n) (hn:n<2^42):nl N<2^38:=by
 have h1:N<2^(32*(n/32+1)):=Nat.lt_of_lt_of_le h (Nat.pow_le_pow_right aa aa)
 have:=dB.2 h1
 omega
section ops
variable {q r:Rat} {n m:Nat}
theorem oM {a b n m:Nat} (ha:a<2^n) (hb:b<2^m):a*b<2^(n+m):=by rw[Nat.pow_add];exact Nat.mul_lt_mul'' ha hb
theorem G7 (hn:n<2^41) (hm':m<2^41) (K:Nat):aD P vO K [.rat q n,.rat r m] [] (aK (.rat (q+r) (n+m+1)) []):=by
 refine jL fun⟨hq,hr,_⟩=>?_
 have hq:Sz q n:=hq
 have hr:Sz r m:=hr
 have d1:=q.den_nz
 have d2:=r.den_nz
 have hz:=hq.add hr
 have a1:nl q.num.natAbs<2^38:=gb hq.1 aa
 have a2:nl q.den<2^38:=gb hq.2 aa
 have b1:nl r.num.natAbs<2^38:=gb hr.1 aa
 have b2:nl r.den<2^38:=gb hr.2 aa
 have x1:=oM hq.1 hr.2
 have x2:=oM hr.1 hq.2
 have m1:nl (q.num.natAbs*r.den)<2^38:=gb x1 aa
 have m2:nl (r.num.natAbs*q.den)<2^38:=gb x2 aa
 have m3:nl (q.den*r.den)<2^38:=gb (oM hq.2 hr.2) aa
 have m4:nl (q.num.natAbs*r.den+r.num.natAbs*q.den)<2^38:=gb (n:=n+m+1) (by rw[Nat.pow_succ];rw[Nat.add_comm m n]at x2;omega) aa
 have hd0:q.den*r.den≠0:=Nat.mul_ne_zero d1 d2
 have hv:q+r=sQ (decide (q<0)) (q.num.natAbs*r.den) (q.den*r.den)+sQ (decide (r<0)) (r.num.natAbs*q.den) (q.den*r.den):=by
  have:=IK q r (decide (r<0))
  rw[lS r]at this
  exact this
 refine bY hT wg hm adX rfl aW rfl 60 alD (fun _=>?_) K []
 generalize q.num.natAbs*r.den=X at*
 generalize r.num.natAbs*q.den=Y at*
 generalize q.den*r.den=D at*
 simp only[ah.all,aA,beq_iff_eq,beq_eq_false_iff_ne,ne_eq,bh,bz,Fq]
 have m5:nl (Y-X)<2^38:=Nat.lt_of_le_of_lt (iA aa) m2
 have m6:nl (X-Y)<2^38:=Nat.lt_of_le_of_lt (iA aa) m1
 refine⟨aa,fun hb=>⟨⟨aa,aa⟩,aa,dc ?_ hz⟩,fun hb=>⟨aa,fun hb2=>⟨⟨aa,aa⟩,aa,dc ?_ hz⟩,fun hb2=>⟨⟨aa,aa,aa,aa,aa,aa,aa,aa⟩,⟨aa,aa,aa,aa⟩,⟨aa,aa⟩,
  fun hs=>⟨⟨aa,aa,aa,m4,m3,hd0,aa⟩,aa,dc ?_ hz⟩,fun hs=>⟨⟨aa,aa⟩,fun hl=>⟨⟨aa,aa⟩,⟨aa,m5,m3,hd0,aa⟩,aa,dc ?_ hz⟩,fun hl=>⟨⟨aa,aa⟩,⟨aa,m6,m3,hd0,aa⟩,aa,dc ?_ hz⟩⟩⟩⟩⟩
 ·have h0:q=0:=oz.1 (jK.1 aa)
  rw[h0,Rat.zero_add]
 ·have h0:r=0:=oz.1 (jK.1 aa)
  rw[h0,Rat.add_zero]
 ·rw[hv,hs,JW hd0]
 ·rw[hv,J0 hd0 hs aa]
 ·rw[hv,HQ hd0 hs aa]
theorem TS (hn:n<2^41) (hm':m<2^41) (K:Nat):aD P BS K [.rat q n,.rat r m] [] (aK (.rat (q*r) (n+m)) []):=by
 refine jL fun⟨hq,hr,_⟩=>?_
 have hq:Sz q n:=hq
 have hr:Sz r m:=hr
 have d1:=q.den_nz
 have d2:=r.den_nz
 have a1:nl q.num.natAbs<2^38:=gb hq.1 aa
 have a2:nl q.den<2^38:=gb hq.2 aa
 have b1:nl r.num.natAbs<2^38:=gb hr.1 aa
 have b2:nl r.den<2^38:=gb hr.2 aa
 have m1:nl (q.num.natAbs*r.num.natAbs)<2^38:=gb (oM hq.1 hr.1) aa
 have m3:nl (q.den*r.den)<2^38:=gb (oM hq.2 hr.2) aa
 have hv:sQ (decide (q<0)!=decide (r<0)) (q.num.natAbs*r.num.natAbs) (q.den*r.den)=q*r:=by rw[<-Iv,lS,lS]
 refine bY hT wg hm ago rfl aW rfl 60 aff (fun _=>?_) K []
 simp only[ah.all,aA]
 exact⟨⟨aa,aa,aa,aa,aa,aa,aa,aa,aa,aa,m1,m3,Nat.mul_ne_zero d1 d2,aa⟩,aa,dc hv (hq.mul hr)⟩
theorem P9 (hn:n<2^41) (hm':m<2^41) (K:Nat):aD P A8 K [.rat q n,.rat r m] [] (aK (.int .i64 (e9 q r)) []):=by
 refine jL fun⟨hq,hr,_⟩=>?_
 have hq:Sz q n:=hq
 have hr:Sz r m:=hr
 have a1:nl q.num.natAbs<2^38:=gb hq.1 aa
 have a2:nl q.den<2^38:=gb hq.2 aa
 have b1:nl r.num.natAbs<2^38:=gb hr.1 aa
 have b2:nl r.den<2^38:=gb hr.2 aa
 have m1:nl (q.num.natAbs*r.den)<2^38:=gb (oM hq.1 hr.2) aa
 have m2:nl (r.num.natAbs*q.den)<2^38:=gb (oM hr.1 hq.2) aa
 refine bY hT wg hm ahf rfl aW rfl 60 alN (fun _=>?_) K []
 simp only[ah.all,aA,bne_iff_ne,ne_eq,bne_eq_false_iff_eq]
 refine⟨⟨aa,aa⟩,fun hs=>⟨fun hl=>bN ?_,fun hl=>bN ?_⟩,fun hs=>⟨⟨aa,aa,aa,aa,aa,aa,aa,aa,aa,aa⟩,aa,fun hc=>bN ?_,fun hc=>bN ?_⟩⟩
 ·rw[Dy hs,if_pos (of_decide_eq_true hl)]
 ·rw[Dy hs,if_neg (of_decide_eq_false hl)]
 ·rw[pG hs,if_pos (of_decide_eq_true hc),Cc]
 ·rw[pG hs,if_neg (of_decide_eq_false hc)]
end ops
theorem FP {x y:Int} (hy:y≠0):sQ (decide (x<0)!=decide (y<0)) x.natAbs y.natAbs=(x:Rat)/(y:Rat):=by
 have h:=Ga (x:Rat) (y:Rat) (by simpa using hy)
 have c:∀{z:Int},decide ((z:Rat)<0)=decide (z<0):=fun {z}=>by rw[decide_eq_decide,jt,Rat.num_intCast]
 rw[c,c,Rat.num_intCast,Rat.num_intCast,Rat.den_intCast,Rat.den_intCast,Nat.mul_one,Nat.one_mul]at h
 exact h
theorem HF {x y:Int} (h1:-2^63<=x) (h2:x<2^63) (h3:-2^63<=y) (h4:y<2^63) (hy:y≠0):Sz ((x:Rat)/(y:Rat)) 64:=by
 rw[<-FP hy];exact DS aa aa aa
theorem Vr {x y:Int} (h1:-2^63<=x) (h2:x<2^63) (h3:-2^63<=y) (h4:y<2^63) (K:Nat):aD P E5 K [.int .i64 x,.int .i64 y] [] (aK (.tuple [.rat ((x:Rat)/(y:Rat)) 64,.int .i64 (if y=0 then 3 else 0)]) []):=by
 refine bY hT wg hm XM rfl aW rfl 60 WN (fun _=>?_) K []
 simp only[ah.all,aA,beq_iff_eq,beq_eq_false_iff_ne,ne_eq]
 refine⟨fun hb=>⟨aa,aa,?_,bN (by rw[if_pos hb]),trivial⟩,fun hb=>⟨⟨h1,h2⟩,⟨h3,h4⟩,⟨gb (n:=64) aa aa,gb (n:=64) aa aa,aa,aa⟩,aa,dc (FP hb) (HF h1 h2 h3 h4 hb),bN (by rw[if_neg hb]),trivial⟩⟩
 rw[hb,show((x:Rat)/((0:Int):Rat))=0 by rw[Rat.intCast_zero,Rat.div_def,Rat.inv_zero,Rat.mul_zero]]
 exact mc
theorem OC {n:Int} (h1:-2^63<=n) (h2:n<2^63) (K:Nat):aD P rC K [.int .i64 n] [] (aK (.rat (n:Rat) (max 1 (bM n.natAbs))) []):=by
 refine bY hT wg hm alL rfl aW rfl 60 adq (fun _=>?_) K []
 simp only[ah.all,aA]
 refine⟨⟨h1,h2⟩,aa,aa,sj I6 ?_ (by rw[Rat.num_intCast]) (by rw[Rat.den_intCast,if_pos rfl])⟩
 rw[decide_eq_decide,jt,Rat.num_intCast]
theorem Uy:∀K args pre r,Pu K args pre=some r->aD P E5 K args pre r:=by
 refine cB fun K args r hk hs _=>?_
 split at hs
 ·simp only[ax]at hs
  subst hs
  exact fun need=>Vr need.1 need.2.1 need.2.2.1 need.2.2.2 K trivial
 ·simp at hs
theorem X7:∀K args pre r,Rm K args pre=some r->aD P vO K args pre r:=by
 refine cB fun K args r hk hs _=>?_
 split at hs
 ·simp only[ax]at hs
  subst hs
  exact fun need=>G7 need.1 need.2 K trivial
 ·simp at hs
theorem OS:bq P Iz:=aH X7 (aH Rn (aH Uy bC))
theorem Nl {q r:Rat} {n m:Nat} (hn:n<2^41) (hm':m<2^41) (K:Nat):aD P DR K [.rat q n,.rat r m] [] (aK (.rat (q-r) (n+m+1)) []):=by
 refine bY hT OS hm Vj rfl aW rfl 60 am2 (fun _=>?_) K []
 simp only[ah.all,aA]
 exact⟨⟨aa,aa,hn,hm',aa⟩,aa,dL (by rw[Rat.sub_eq_add_neg])⟩
theorem WB {x y:Int} (h1:-2^63<=x) (h2:x<2^63) (h3:-2^63<=y) (h4:y<2^63) (K:Nat):aD P sN K [.int .i64 x,.int .i64 y] [] (aK (.rat ((x:Rat)/(y:Rat)) 64) []):=by
 refine bY hT OS hm Zt rfl aW rfl 60 Xc (fun _=>?_) K []
 simp only[ah.all,aA]
 exact⟨⟨h1,h2,h3,h4,aa⟩,⟨aa,aa⟩,aa,.refl _⟩
def zZ:Spec:=bU fun l=>match l with
 |[.int .i64 n]=>some (aK (.rat (n:Rat) (max 1 (bM n.natAbs))) [-2^63<=n,n<2^63])
 |_=>none
theorem D9:∀K args pre r,zZ K args pre=some r->aD P rC K args pre r:=by
 refine cB fun K args r hk hs _=>?_
 split at hs
 ·simp only[ax]at hs
  subst hs
  exact fun need=>OC need.1 need.2 K trivial
 ·simp at hs
def yN:Spec:=bU fun l=>match l with
 |[.int .i64 x,.int .i64 y]=>some (aK (.rat ((x:Rat)/(y:Rat)) 64) [-2^63<=x,x<2^63,-2^63<=y,y<2^63])
 |_=>none
theorem Fu:∀K args pre r,yN K args pre=some r->aD P sN K args pre r:=by
 refine cB fun K args r hk hs _=>?_
 split at hs
 ·simp only[ax]at hs
  subst hs
  exact fun need=>WB need.1 need.2.1 need.2.2.1 need.2.2.2 K trivial
 ·simp at hs
end Go.Am.B
