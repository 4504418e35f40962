/- ref02: Add, Sub, Mul, Cmp, Make, Frac, Int. -/
import Derived.Test.YtgfjdngnneoeoaaGreatB30
set_option linter.unusedVariables false
namespace Go.Am.B
open Go Go.Am.N AV Proofs.Tryz
theorem aeM:aX 69 f69:=aM func69
theorem Ro:aX 68 f68:=aM func68
theorem Tk:aX 57 f57:=aM func57
theorem afR:aX 96 f96:=aM func96
theorem ahW:aX 167 f167:=aM func167
theorem Ux:aX 123 f123:=aM func123
theorem acA:aX 20 f20:=aM func20
def p9:aV:=[(107,Me),(106,D7),(125,Ii),(126,Jt),(100,xm),(105,Gs),(143,MR),(124,Er),(58,Fv)]
def GU:Spec:=bX fun l=>match l with
 |[.int .i64 x,.int .i64 y]=>some (aH (.tuple [.rat ((x:Rat)/(y:Rat)) 64,.int .i64 (if y=0 then 3 else 0)]) [-2^63<=x,x<2^63,-2^63<=y,y<2^63])
 |_=>none
def Km:Spec:=bX fun l=>match l with
 |[.rat q n,.rat r m]=>some (aH (.rat (q+r) (n+m+1)) [n<2^41,m<2^41])
 |_=>none
def DG:aV:=[(69,Km),(124,Er),(167,GU)]
theorem sM:bg P p9:=aE XN (aE OD (aE TT (aE Rw (aE Ae (aE V4 (aE Pm (aE Li (aE YL bD))))))))
theorem QN {q r:Rat} {n m:Nat}:bF T p9 [15,20,41,52] 60 f69 (aF f69) ⟨aS 0 [.rat q n,.rat r m],[],0⟩=
  let c10:Bool:=decide (r<0);let c9:Nat:=2^38;let c8:Nat:=q.den*r.den;let c7:Bool:=decide (q<0);let c6:Nat:=2^39;let c5:Nat:=2^40;let c3:Nat:=q.num.natAbs*r.den;let c2:Nat:=r.num.natAbs*q.den;let c1:Prop:=0<1;let c4:List Prop:=[nl c8<c9,c8≠0,c1];some (ag.aj [c1] (ag.fork ((↑(nl q.num.natAbs):Int)==0) (ag.aj [c1,c1] (ag.aj [c1] (ag.leaf aq.ret [rat r m]))) (ag.aj [c1] (ag.fork ((↑(nl r.num.natAbs):Int)==0) (ag.aj [c1,c1] (ag.aj [c1] (ag.leaf aq.ret [rat q n]))) (ag.aj [c1,c1,nl q.num.natAbs<c6,nl r.den<c6,c1,c1,nl r.num.natAbs<c6,nl q.den<c6] (ag.aj [c1,c1,nl q.den<c6,nl r.den<c6] (ag.aj [c1,c1] (ag.fork (c7==c10) (ag.aj (c1::(nl c3<c5)::(nl c2<c5)::(nl (c3+c2)<c9)::c4) (ag.aj [c1] (ag.leaf aq.ret [rat (sQ c7 (c3+c2) c8) (dr (sQ c7 (c3+c2) c8))]))) (ag.aj [nl c3<c5,nl c2<c5] (ag.fork (decide (cY c3 c2<0)) (ag.aj [nl c2<c5,nl c3<c5] (ag.aj (c1::(nl (c2-c3)<c9)::c4) (ag.aj [c1] (ag.leaf aq.ret [rat (sQ c10 (c2-c3) c8) (dr (sQ c10 (c2-c3) c8))])))) (ag.aj [nl c3<c5,nl c2<c5] (ag.aj (c1::(nl (c3-c2)<c9)::c4) (ag.aj [c1] (ag.leaf aq.ret [rat (sQ c7 (c3-c2) c8) (dr (sQ c7 (c3-c2) c8))])))))))))))))):=ah
theorem T9 {q r:Rat} {n m:Nat}:bF T p9 [] 60 f57 (aF f57) ⟨aS 0 [.rat q n,.rat r m],[],0⟩=
  let c4:Nat:=q.num.natAbs*r.num.natAbs;let c3:Nat:=2^39;let c1:Prop:=0<1;let c2:Rat:=sQ (decide (q<0)!=decide (r<0)) c4 (q.den*r.den);some (ag.aj [c1,c1,c1,c1,nl q.num.natAbs<c3,nl r.num.natAbs<c3,c1,c1,nl q.den<c3,nl r.den<c3,nl c4<2^38,nl (q.den*r.den)<2^38,q.den*r.den≠0,c1] (ag.aj [c1] (ag.leaf aq.ret [rat c2 (dr c2)]))):=ah
theorem agk {q r:Rat} {n m:Nat}:bF T p9 [14,17,30] 60 f96 (aF f96) ⟨aS 0 [.rat q n,.rat r m],[],0⟩=
  let c3:Int:=cY (q.num.natAbs*r.den) (r.num.natAbs*q.den);let c2:Nat:=2^39;let c1:Prop:=0<1;some (ag.aj [c1,c1] (ag.fork (eO q !=eO r) (ag.fork (decide (eO q<eO r)) (ag.leaf aq.ret [int .i64 (-1:Int)]) (ag.leaf aq.ret [int .i64 (1:Int)])) (ag.aj [c1,c1,nl q.num.natAbs<c2,nl r.den<c2,c1,c1,nl r.num.natAbs<c2,nl q.den<c2,nl (q.num.natAbs*r.den)<2^40,nl (r.num.natAbs*q.den)<2^40] (ag.aj [c1] (ag.fork (decide (q<0)) (ag.leaf aq.ret [int .i64 (IntKind.i64.wrap ((0:Int)-c3))]) (ag.leaf aq.ret [int .i64 c3])))))):=ah
theorem ZA {x y:Int}:bF T p9 [11] 60 f167 (aF f167) ⟨aS 0 [.int .i64 x,.int .i64 y],[],0⟩=
  let c3:List Prop:=[(0:Nat)<1];let c2:Int:=(2:Int)^63;let c1:Rat:=sQ (decide (x<0)!=decide (y<0)) x.natAbs y.natAbs;some (ag.fork (y==0) (ag.aj c3 (ag.aj c3 (ag.leaf aq.ret [agg [AV.bool false,mag 0,mag 0],int .i64 (3:Int)]))) (ag.aj [-c2<=x,x<c2] (ag.aj [-c2<=y,y<c2] (ag.aj ((nl x.natAbs<2^38)::(nl y.natAbs<2^38)::(y.natAbs≠0)::c3) (ag.aj c3 (ag.leaf aq.ret [rat c1 (dr c1),int .i64 (0:Int)])))))):=ah
theorem Uo {x:Int}:bF T p9 [] 60 f20 (aF f20) ⟨aS 0 [.int .i64 x],[],0⟩=
  some (ag.aj [-(2:Int)^63<=x,x<2^63] (ag.aj [(0:Nat)<1] (ag.aj [(0:Nat)<1] (ag.leaf aq.ret [agg [AV.bool (decide (x<0)),mag x.natAbs,mag 0]])))):=ah
theorem YB {q r:Rat} {n m:Nat}:bF T DG [] 60 f68 (aF f68) ⟨aS 0 [.rat q n,.rat r m],[],0⟩=
  let c1:Prop:=0<1;some (ag.aj [c1,c1,n<2^41,m<2^41,c1] (ag.aj [c1] (ag.leaf aq.ret [rat (q+-r) (n+m+1)]))):=ah
theorem ac3 {x y:Int}:bF T DG [] 60 f123 (aF f123) ⟨aS 0 [.int .i64 x,.int .i64 y],[],0⟩=
  let c2:Prop:=0<1;let c1:Int:=(2:Int)^63;some (ag.aj [-c1<=x,x<c1,-c1<=y,y<c1,c2] (ag.aj [c2,c2] (ag.aj [c2] (ag.leaf aq.ret [rat ((↑x:Rat)/(↑y:Rat)) 64])))):=ah
theorem fX {N n:Nat} (h:N<2^n) (hn:n<2^42):nl N<2^38:=by
 have h1:N<2^(32*(n/32+1)):=Nat.lt_of_lt_of_le h (Nat.pow_le_pow_right aa aa)
 have:=dL.2 h1
 omega
section ops
variable {q r:Rat} {n m:Nat}
theorem nL {a b n m:Nat} (ha:a<2^n) (hb:b<2^m):a*b<2^(n+m):=by rw[Nat.pow_add];exact Nat.mul_lt_mul'' ha hb
theorem BK (hn:n<2^41) (hm':m<2^41) (K:Nat):aN P 69 K [.rat q n,.rat r m] [] (aH (.rat (q+r) (n+m+1)) []):=by
 refine kP fun⟨hq,hr,_⟩=>?_
 have hq:Sz q n:=hq
 have hr:Sz r m:=hr
 have d1:=q.den_nz
 have d2:=r.den_nz
 have hz:=hq.add hr
 have a1:nl q.num.natAbs<2^38:=fX hq.1 aa
 have a2:nl q.den<2^38:=fX hq.2 aa
 have b1:nl r.num.natAbs<2^38:=fX hr.1 aa
 have b2:nl r.den<2^38:=fX hr.2 aa
 have x1:=nL hq.1 hr.2
 have x2:=nL hr.1 hq.2
 have m1:nl (q.num.natAbs*r.den)<2^38:=fX x1 aa
 have m2:nl (r.num.natAbs*q.den)<2^38:=fX x2 aa
 have m3:nl (q.den*r.den)<2^38:=fX (nL hq.2 hr.2) aa
 have m4:nl (q.num.natAbs*r.den+r.num.natAbs*q.den)<2^38:=fX (n:=n+m+1) (by rw[Nat.pow_succ];rw[Nat.add_comm m n]at x2;omega) aa
 have hd0:q.den*r.den≠0:=Nat.mul_ne_zero d1 d2
 have hv:q+r=sQ (decide (q<0)) (q.num.natAbs*r.den) (q.den*r.den)+sQ (decide (r<0)) (r.num.natAbs*q.den) (q.den*r.den):=by
  have:=DF q r (decide (r<0))
  rw[kJ r]at this
  exact this
 refine bM hT sM hm aeM rfl aW rfl 60 QN (fun _=>?_) K []
 generalize q.num.natAbs*r.den=X at*
 generalize r.num.natAbs*q.den=Y at*
 generalize q.den*r.den=D at*
 simp only[ag.all,au,beq_iff_eq,beq_eq_false_iff_ne,ne_eq,bz,bG,x6]
 have m5:nl (Y-X)<2^38:=Nat.lt_of_le_of_lt (iC aa) m2
 have m6:nl (X-Y)<2^38:=Nat.lt_of_le_of_lt (iC aa) m1
 refine⟨aa,fun hb=>⟨⟨aa,aa⟩,aa,en ?_ hz⟩,fun hb=>⟨aa,fun hb2=>⟨⟨aa,aa⟩,aa,en ?_ hz⟩,fun hb2=>⟨⟨aa,aa,aa,aa,aa,aa,aa,aa⟩,⟨aa,aa,aa,aa⟩,⟨aa,aa⟩,
  fun hs=>⟨⟨aa,aa,aa,m4,m3,hd0,aa⟩,aa,en ?_ hz⟩,fun hs=>⟨⟨aa,aa⟩,fun hl=>⟨⟨aa,aa⟩,⟨aa,m5,m3,hd0,aa⟩,aa,en ?_ hz⟩,fun hl=>⟨⟨aa,aa⟩,⟨aa,m6,m3,hd0,aa⟩,aa,en ?_ hz⟩⟩⟩⟩⟩
 ·have h0:q=0:=nT.1 (j9.1 aa)
  rw[h0,Rat.zero_add]
 ·have h0:r=0:=nT.1 (j9.1 aa)
  rw[h0,Rat.add_zero]
 ·rw[hv,hs,C9 hd0]
 ·rw[hv,Dv hd0 hs aa]
 ·rw[hv,Co hd0 hs aa]
theorem NW (hn:n<2^41) (hm':m<2^41) (K:Nat):aN P 57 K [.rat q n,.rat r m] [] (aH (.rat (q*r) (n+m)) []):=by
 refine kP fun⟨hq,hr,_⟩=>?_
 have hq:Sz q n:=hq
 have hr:Sz r m:=hr
 have d1:=q.den_nz
 have d2:=r.den_nz
 have a1:nl q.num.natAbs<2^38:=fX hq.1 aa
 have a2:nl q.den<2^38:=fX hq.2 aa
 have b1:nl r.num.natAbs<2^38:=fX hr.1 aa
 have b2:nl r.den<2^38:=fX hr.2 aa
 have m1:nl (q.num.natAbs*r.num.natAbs)<2^38:=fX (nL hq.1 hr.1) aa
 have m3:nl (q.den*r.den)<2^38:=fX (nL hq.2 hr.2) aa
 have hv:sQ (decide (q<0)!=decide (r<0)) (q.num.natAbs*r.num.natAbs) (q.den*r.den)=q*r:=by rw[<-CF,kJ,kJ]
 refine bM hT sM hm Tk rfl aW rfl 60 T9 (fun _=>?_) K []
 simp only[ag.all,au]
 exact⟨⟨aa,aa,aa,aa,aa,aa,aa,aa,aa,aa,m1,m3,Nat.mul_ne_zero d1 d2,aa⟩,aa,en hv (hq.mul hr)⟩
theorem Kl (hn:n<2^41) (hm':m<2^41) (K:Nat):aN P 96 K [.rat q n,.rat r m] [] (aH (.int .i64 (dn q r)) []):=by
 refine kP fun⟨hq,hr,_⟩=>?_
 have hq:Sz q n:=hq
 have hr:Sz r m:=hr
 have a1:nl q.num.natAbs<2^38:=fX hq.1 aa
 have a2:nl q.den<2^38:=fX hq.2 aa
 have b1:nl r.num.natAbs<2^38:=fX hr.1 aa
 have b2:nl r.den<2^38:=fX hr.2 aa
 have m1:nl (q.num.natAbs*r.den)<2^38:=fX (nL hq.1 hr.2) aa
 have m2:nl (r.num.natAbs*q.den)<2^38:=fX (nL hr.1 hq.2) aa
 refine bM hT sM hm afR rfl aW rfl 60 agk (fun _=>?_) K []
 simp only[ag.all,au,bne_iff_ne,ne_eq,bne_eq_false_iff_eq]
 refine⟨⟨aa,aa⟩,fun hs=>⟨fun hl=>bW ?_,fun hl=>bW ?_⟩,fun hs=>⟨⟨aa,aa,aa,aa,aa,aa,aa,aa,aa,aa⟩,aa,fun hc=>bW ?_,fun hc=>bW ?_⟩⟩
 ·rw[As hs,if_pos (of_decide_eq_true hl)]
 ·rw[As hs,if_neg (of_decide_eq_false hl)]
 ·rw[oz hs,if_pos (of_decide_eq_true hc),yc]
 ·rw[oz hs,if_neg (of_decide_eq_false hc)]
end ops
theorem Cg {x y:Int} (hy:y≠0):sQ (decide (x<0)!=decide (y<0)) x.natAbs y.natAbs=(x:Rat)/(y:Rat):=by
 have h:=BC (x:Rat) (y:Rat) (by simpa using hy)
 have c:∀{z:Int},decide ((z:Rat)<0)=decide (z<0):=fun {z}=>by rw[decide_eq_decide,jv,Rat.num_intCast]
 rw[c,c,Rat.num_intCast,Rat.num_intCast,Rat.den_intCast,Rat.den_intCast,Nat.mul_one,Nat.one_mul]at h
 exact h
theorem Jp {x y:Int} (h1:-2^63<=x) (h2:x<2^63) (h3:-2^63<=y) (h4:y<2^63) (hy:y≠0):Sz ((x:Rat)/(y:Rat)) 64:=by
 rw[<-Cg hy];exact Al aa aa aa
theorem aei {x y:Int} (h1:-2^63<=x) (h2:x<2^63) (h3:-2^63<=y) (h4:y<2^63) (K:Nat):aN P 167 K [.int .i64 x,.int .i64 y] [] (aH (.tuple [.rat ((x:Rat)/(y:Rat)) 64,.int .i64 (if y=0 then 3 else 0)]) []):=by
 refine bM hT sM hm ahW rfl aW rfl 60 ZA (fun _=>?_) K []
 simp only[ag.all,au,beq_iff_eq,beq_eq_false_iff_ne,ne_eq]
 refine⟨fun hb=>⟨aa,aa,?_,bW (by rw[if_pos hb]),trivial⟩,fun hb=>⟨⟨h1,h2⟩,⟨h3,h4⟩,⟨fX (n:=64) aa aa,fX (n:=64) aa aa,aa,aa⟩,aa,en (Cg hb) (Jp h1 h2 h3 h4 hb),bW (by rw[if_neg hb]),trivial⟩⟩
 rw[hb,show((x:Rat)/((0:Int):Rat))=0 by rw[Rat.intCast_zero,Rat.div_def,Rat.inv_zero,Rat.mul_zero]]
 exact k9
theorem Ay {n:Int} (h1:-2^63<=n) (h2:n<2^63) (K:Nat):aN P 20 K [.int .i64 n] [] (aH (.rat (n:Rat) (max 1 (bN n.natAbs))) []):=by
 refine bM hT sM hm acA rfl aW rfl 60 Uo (fun _=>?_) K []
 simp only[ag.all,au]
 refine⟨⟨h1,h2⟩,aa,aa,sR B0 ?_ (by rw[Rat.num_intCast]) (by rw[Rat.den_intCast,if_pos rfl])⟩
 rw[decide_eq_decide,jv,Rat.num_intCast]
theorem XY:bf P GU 167:=by
 refine cM fun K args r hk hs _=>?_
 split at hs
 ·simp only[ax]at hs
  subst hs
  exact fun need=>aei need.1 need.2.1 need.2.2.1 need.2.2.2 K trivial
 ·simp at hs
theorem Qa:bf P Km 69:=by
 refine cM fun K args r hk hs _=>?_
 split at hs
 ·simp only[ax]at hs
  subst hs
  exact fun need=>BK need.1 need.2 K trivial
 ·simp at hs
theorem OI:bg P DG:=aE Qa (aE Li (aE XY bD))
theorem JU {q r:Rat} {n m:Nat} (hn:n<2^41) (hm':m<2^41) (K:Nat):aN P 68 K [.rat q n,.rat r m] [] (aH (.rat (q-r) (n+m+1)) []):=by
 refine bM hT OI hm Ro rfl aW rfl 60 YB (fun _=>?_) K []
 simp only[ag.all,au]
 exact⟨⟨aa,aa,hn,hm',aa⟩,aa,dX (by rw[Rat.sub_eq_add_neg])⟩
theorem Td {x y:Int} (h1:-2^63<=x) (h2:x<2^63) (h3:-2^63<=y) (h4:y<2^63) (K:Nat):aN P 123 K [.int .i64 x,.int .i64 y] [] (aH (.rat ((x:Rat)/(y:Rat)) 64) []):=by
 refine bM hT OI hm Ux rfl aW rfl 60 ac3 (fun _=>?_) K []
 simp only[ag.all,au]
 exact⟨⟨h1,h2,h3,h4,aa⟩,⟨aa,aa⟩,aa,.refl _⟩
def z7:Spec:=bX fun l=>match l with
 |[.int .i64 n]=>some (aH (.rat (n:Rat) (max 1 (bN n.natAbs))) [-2^63<=n,n<2^63])
 |_=>none
theorem CN:bf P z7 20:=by
 refine cM fun K args r hk hs _=>?_
 split at hs
 ·simp only[ax]at hs
  subst hs
  exact fun need=>Ay need.1 need.2 K trivial
 ·simp at hs
def Ht:Spec:=bX fun l=>match l with
 |[.int .i64 x,.int .i64 y]=>some (aH (.rat ((x:Rat)/(y:Rat)) 64) [-2^63<=x,x<2^63,-2^63<=y,y<2^63])
 |_=>none
theorem ZG:bf P Ht 123:=by
 refine cM fun K args r hk hs _=>?_
 split at hs
 ·simp only[ax]at hs
  subst hs
  exact fun need=>Td need.1 need.2.1 need.2.2.1 need.2.2.2 K trivial
 ·simp at hs
end Go.Am.B
