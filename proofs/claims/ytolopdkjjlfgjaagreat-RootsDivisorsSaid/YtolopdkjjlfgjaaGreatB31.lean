/- ref02: Add, Sub, Mul, Cmp, Make, Frac, Int. -/
import Derived.Test.YtolopdkjjlfgjaaGreatB30
set_option linter.unusedVariables false
namespace Go.Am.B
open Go Go.Am.N AV Proofs.Tryz
theorem ZF:aX 92 f92:=aY func92
theorem S0:aX 53 f53:=aY func53
theorem Ue:aX 90 f90:=aY func90
theorem acL:aX 27 f27:=aY func27
theorem WI:aX 103 f103:=aY func103
theorem Qb:aX 46 f46:=aY func46
theorem abd:aX 23 f23:=aY func23
def qF:bg:=[(86,Da),(85,B1),(146,LN),(147,IB),(84,uu),(145,Gn),(24,HY),(52,yL),(82,HQ)]
def F5:Spec:=bR fun l=>match l with
 |[.int .i64 x,.int .i64 y]=>some (aJ (.tuple [.rat ((x:Rat)/(y:Rat)) 64,.int .i64 (if y=0 then 3 else 0)]) [-2^63<=x,x<2^63,-2^63<=y,y<2^63])
 |_=>none
def M4:Spec:=bR fun l=>match l with
 |[.rat q n,.rat r m]=>some (aJ (.rat (q+r) (n+m+1)) [n<2^41,m<2^41])
 |_=>none
def CV:bg:=[(92,M4),(52,yL),(103,F5)]
theorem sn:bK P qF:=aK Fh (aK HM (aK acU (aK Q1 (aK Ap (aK aaW (aK PT (aK C4 (aK Oe bU))))))))
theorem Sv {q r:Rat} {n m:Nat}:bT T qF [15,20,41,52] 60 f92 (aG f92) ⟨aS 0 [.rat q n,.rat r m],[],0⟩=
  let c10:Bool:=decide (r<0);let c9:Nat:=2^38;let c8:Nat:=q.den*r.den;let c7:Bool:=decide (q<0);let c6:Nat:=2^39;let c5:Nat:=2^40;let c3:Nat:=q.num.natAbs*r.den;let c2:Nat:=r.num.natAbs*q.den;let c1:Prop:=0<1;let c4:List Prop:=[nl c8<c9,c8≠0,c1];some (af.aj [c1] (af.fork ((↑(nl q.num.natAbs):Int)==0) (af.aj [c1,c1] (af.aj [c1] (af.leaf aq.ret [rat r m]))) (af.aj [c1] (af.fork ((↑(nl r.num.natAbs):Int)==0) (af.aj [c1,c1] (af.aj [c1] (af.leaf aq.ret [rat q n]))) (af.aj [c1,c1,nl q.num.natAbs<c6,nl r.den<c6,c1,c1,nl r.num.natAbs<c6,nl q.den<c6] (af.aj [c1,c1,nl q.den<c6,nl r.den<c6] (af.aj [c1,c1] (af.fork (c7==c10) (af.aj (c1::(nl c3<c5)::(nl c2<c5)::(nl (c3+c2)<c9)::c4) (af.aj [c1] (af.leaf aq.ret [rat (sQ c7 (c3+c2) c8) (dj (sQ c7 (c3+c2) c8))]))) (af.aj [nl c3<c5,nl c2<c5] (af.fork (decide (cV c3 c2<0)) (af.aj [nl c2<c5,nl c3<c5] (af.aj (c1::(nl (c2-c3)<c9)::c4) (af.aj [c1] (af.leaf aq.ret [rat (sQ c10 (c2-c3) c8) (dj (sQ c10 (c2-c3) c8))])))) (af.aj [nl c3<c5,nl c2<c5] (af.aj (c1::(nl (c3-c2)<c9)::c4) (af.aj [c1] (af.leaf aq.ret [rat (sQ c7 (c3-c2) c8) (dj (sQ c7 (c3-c2) c8))])))))))))))))):=ag
theorem Ot {q r:Rat} {n m:Nat}:bT T qF [] 60 f90 (aG f90) ⟨aS 0 [.rat q n,.rat r m],[],0⟩=
  let c4:Nat:=q.num.natAbs*r.num.natAbs;let c3:Nat:=2^39;let c1:Prop:=0<1;let c2:Rat:=sQ (decide (q<0)!=decide (r<0)) c4 (q.den*r.den);some (af.aj [c1,c1,c1,c1,nl q.num.natAbs<c3,nl r.num.natAbs<c3,c1,c1,nl q.den<c3,nl r.den<c3,nl c4<2^38,nl (q.den*r.den)<2^38,q.den*r.den≠0,c1] (af.aj [c1] (af.leaf aq.ret [rat c2 (dj c2)]))):=ag
theorem Vg {q r:Rat} {n m:Nat}:bT T qF [14,17,30] 60 f27 (aG f27) ⟨aS 0 [.rat q n,.rat r m],[],0⟩=
  let c3:Int:=cV (q.num.natAbs*r.den) (r.num.natAbs*q.den);let c2:Nat:=2^39;let c1:Prop:=0<1;some (af.aj [c1,c1] (af.fork (dJ q !=dJ r) (af.fork (decide (dJ q<dJ r)) (af.leaf aq.ret [int .i64 (-1:Int)]) (af.leaf aq.ret [int .i64 (1:Int)])) (af.aj [c1,c1,nl q.num.natAbs<c2,nl r.den<c2,c1,c1,nl r.num.natAbs<c2,nl q.den<c2,nl (q.num.natAbs*r.den)<2^40,nl (r.num.natAbs*q.den)<2^40] (af.aj [c1] (af.fork (decide (q<0)) (af.leaf aq.ret [int .i64 (IntKind.i64.wrap ((0:Int)-c3))]) (af.leaf aq.ret [int .i64 c3])))))):=ag
theorem PX {x y:Int}:bT T qF [11] 60 f103 (aG f103) ⟨aS 0 [.int .i64 x,.int .i64 y],[],0⟩=
  let c3:List Prop:=[(0:Nat)<1];let c2:Int:=(2:Int)^63;let c1:Rat:=sQ (decide (x<0)!=decide (y<0)) x.natAbs y.natAbs;some (af.fork (y==0) (af.aj c3 (af.aj c3 (af.leaf aq.ret [agg [AV.bool false,mag 0,mag 0],int .i64 (3:Int)]))) (af.aj [-c2<=x,x<c2] (af.aj [-c2<=y,y<c2] (af.aj ((nl x.natAbs<2^38)::(nl y.natAbs<2^38)::(y.natAbs≠0)::c3) (af.aj c3 (af.leaf aq.ret [rat c1 (dj c1),int .i64 (0:Int)])))))):=ag
theorem TY {x:Int}:bT T qF [] 60 f23 (aG f23) ⟨aS 0 [.int .i64 x],[],0⟩=
  some (af.aj [-(2:Int)^63<=x,x<2^63] (af.aj [(0:Nat)<1] (af.aj [(0:Nat)<1] (af.leaf aq.ret [agg [AV.bool (decide (x<0)),mag x.natAbs,mag 0]])))):=ag
theorem Ws {q r:Rat} {n m:Nat}:bT T CV [] 60 f53 (aG f53) ⟨aS 0 [.rat q n,.rat r m],[],0⟩=
  let c1:Prop:=0<1;some (af.aj [c1,c1,n<2^41,m<2^41,c1] (af.aj [c1] (af.leaf aq.ret [rat (q+-r) (n+m+1)]))):=ag
theorem aa3 {x y:Int}:bT T CV [] 60 f46 (aG f46) ⟨aS 0 [.int .i64 x,.int .i64 y],[],0⟩=
  let c2:Prop:=0<1;let c1:Int:=(2:Int)^63;some (af.aj [-c1<=x,x<c1,-c1<=y,y<c1,c2] (af.aj [c2,c2] (af.aj [c2] (af.leaf aq.ret [rat ((↑x:Rat)/(↑y:Rat)) 64])))):=ag
theorem fG {N n:Nat} (h:N<2^n) (hn:n<2^42):nl N<2^38:=by
 have h1:N<2^(32*(n/32+1)):=Nat.lt_of_lt_of_le h (Nat.pow_le_pow_right aa aa)
 have:=dB.2 h1
 omega
section ops
variable {q r:Rat} {n m:Nat}
theorem nC {a b n m:Nat} (ha:a<2^n) (hb:b<2^m):a*b<2^(n+m):=by rw[Nat.pow_add];exact Nat.mul_lt_mul'' ha hb
theorem KN (hn:n<2^41) (hm':m<2^41) (K:Nat):aO P 92 K [.rat q n,.rat r m] [] (aJ (.rat (q+r) (n+m+1)) []):=by
 refine kE fun⟨hq,hr,_⟩=>?_
 have hq:Sz q n:=hq
 have hr:Sz r m:=hr
 have d1:=q.den_nz
 have d2:=r.den_nz
 have hz:=hq.add hr
 have a1:nl q.num.natAbs<2^38:=fG hq.1 aa
 have a2:nl q.den<2^38:=fG hq.2 aa
 have b1:nl r.num.natAbs<2^38:=fG hr.1 aa
 have b2:nl r.den<2^38:=fG hr.2 aa
 have x1:=nC hq.1 hr.2
 have x2:=nC hr.1 hq.2
 have m1:nl (q.num.natAbs*r.den)<2^38:=fG x1 aa
 have m2:nl (r.num.natAbs*q.den)<2^38:=fG x2 aa
 have m3:nl (q.den*r.den)<2^38:=fG (nC hq.2 hr.2) aa
 have m4:nl (q.num.natAbs*r.den+r.num.natAbs*q.den)<2^38:=fG (n:=n+m+1) (by rw[Nat.pow_succ];rw[Nat.add_comm m n]at x2;omega) aa
 have hd0:q.den*r.den≠0:=Nat.mul_ne_zero d1 d2
 have hv:q+r=sQ (decide (q<0)) (q.num.natAbs*r.den) (q.den*r.den)+sQ (decide (r<0)) (r.num.natAbs*q.den) (q.den*r.den):=by
  have:=Ep q r (decide (r<0))
  rw[kX r]at this
  exact this
 refine bW hT sn hm ZF rfl aW rfl 60 Sv (fun _=>?_) K []
 generalize q.num.natAbs*r.den=X at*
 generalize r.num.natAbs*q.den=Y at*
 generalize q.den*r.den=D at*
 simp only[af.all,az,beq_iff_eq,beq_eq_false_iff_ne,ne_eq,bz,bE,z6]
 have m5:nl (Y-X)<2^38:=Nat.lt_of_le_of_lt (hH aa) m2
 have m6:nl (X-Y)<2^38:=Nat.lt_of_le_of_lt (hH aa) m1
 refine⟨aa,fun hb=>⟨⟨aa,aa⟩,aa,ee ?_ hz⟩,fun hb=>⟨aa,fun hb2=>⟨⟨aa,aa⟩,aa,ee ?_ hz⟩,fun hb2=>⟨⟨aa,aa,aa,aa,aa,aa,aa,aa⟩,⟨aa,aa,aa,aa⟩,⟨aa,aa⟩,
  fun hs=>⟨⟨aa,aa,aa,m4,m3,hd0,aa⟩,aa,ee ?_ hz⟩,fun hs=>⟨⟨aa,aa⟩,fun hl=>⟨⟨aa,aa⟩,⟨aa,m5,m3,hd0,aa⟩,aa,ee ?_ hz⟩,fun hl=>⟨⟨aa,aa⟩,⟨aa,m6,m3,hd0,aa⟩,aa,ee ?_ hz⟩⟩⟩⟩⟩
 ·have h0:q=0:=nQ.1 (kB.1 aa)
  rw[h0,Rat.zero_add]
 ·have h0:r=0:=nQ.1 (kB.1 aa)
  rw[h0,Rat.add_zero]
 ·rw[hv,hs,ES hd0]
 ·rw[hv,CJ hd0 hs aa]
 ·rw[hv,Bk hd0 hs aa]
theorem TA (hn:n<2^41) (hm':m<2^41) (K:Nat):aO P 90 K [.rat q n,.rat r m] [] (aJ (.rat (q*r) (n+m)) []):=by
 refine kE fun⟨hq,hr,_⟩=>?_
 have hq:Sz q n:=hq
 have hr:Sz r m:=hr
 have d1:=q.den_nz
 have d2:=r.den_nz
 have a1:nl q.num.natAbs<2^38:=fG hq.1 aa
 have a2:nl q.den<2^38:=fG hq.2 aa
 have b1:nl r.num.natAbs<2^38:=fG hr.1 aa
 have b2:nl r.den<2^38:=fG hr.2 aa
 have m1:nl (q.num.natAbs*r.num.natAbs)<2^38:=fG (nC hq.1 hr.1) aa
 have m3:nl (q.den*r.den)<2^38:=fG (nC hq.2 hr.2) aa
 have hv:sQ (decide (q<0)!=decide (r<0)) (q.num.natAbs*r.num.natAbs) (q.den*r.den)=q*r:=by rw[<-Db,kX,kX]
 refine bW hT sn hm Ue rfl aW rfl 60 Ot (fun _=>?_) K []
 simp only[af.all,az]
 exact⟨⟨aa,aa,aa,aa,aa,aa,aa,aa,aa,aa,m1,m3,Nat.mul_ne_zero d1 d2,aa⟩,aa,ee hv (hq.mul hr)⟩
theorem Rg (hn:n<2^41) (hm':m<2^41) (K:Nat):aO P 27 K [.rat q n,.rat r m] [] (aJ (.int .i64 (iJ q r)) []):=by
 refine kE fun⟨hq,hr,_⟩=>?_
 have hq:Sz q n:=hq
 have hr:Sz r m:=hr
 have a1:nl q.num.natAbs<2^38:=fG hq.1 aa
 have a2:nl q.den<2^38:=fG hq.2 aa
 have b1:nl r.num.natAbs<2^38:=fG hr.1 aa
 have b2:nl r.den<2^38:=fG hr.2 aa
 have m1:nl (q.num.natAbs*r.den)<2^38:=fG (nC hq.1 hr.2) aa
 have m2:nl (r.num.natAbs*q.den)<2^38:=fG (nC hr.1 hq.2) aa
 refine bW hT sn hm acL rfl aW rfl 60 Vg (fun _=>?_) K []
 simp only[af.all,az,bne_iff_ne,ne_eq,bne_eq_false_iff_eq]
 refine⟨⟨aa,aa⟩,fun hs=>⟨fun hl=>bQ ?_,fun hl=>bQ ?_⟩,fun hs=>⟨⟨aa,aa,aa,aa,aa,aa,aa,aa,aa,aa⟩,aa,fun hc=>bQ ?_,fun hc=>bQ ?_⟩⟩
 ·rw[AL hs,if_pos (of_decide_eq_true hl)]
 ·rw[AL hs,if_neg (of_decide_eq_false hl)]
 ·rw[nu hs,if_pos (of_decide_eq_true hc),AB]
 ·rw[nu hs,if_neg (of_decide_eq_false hc)]
end ops
theorem Kg {x y:Int} (hy:y≠0):sQ (decide (x<0)!=decide (y<0)) x.natAbs y.natAbs=(x:Rat)/(y:Rat):=by
 have h:=A9 (x:Rat) (y:Rat) (by simpa using hy)
 have c:∀{z:Int},decide ((z:Rat)<0)=decide (z<0):=fun {z}=>by rw[decide_eq_decide,je,Rat.num_intCast]
 rw[c,c,Rat.num_intCast,Rat.num_intCast,Rat.den_intCast,Rat.den_intCast,Nat.mul_one,Nat.one_mul]at h
 exact h
theorem JY {x y:Int} (h1:-2^63<=x) (h2:x<2^63) (h3:-2^63<=y) (h4:y<2^63) (hy:y≠0):Sz ((x:Rat)/(y:Rat)) 64:=by
 rw[<-Kg hy];exact Dr aa aa aa
theorem NK {x y:Int} (h1:-2^63<=x) (h2:x<2^63) (h3:-2^63<=y) (h4:y<2^63) (K:Nat):aO P 103 K [.int .i64 x,.int .i64 y] [] (aJ (.tuple [.rat ((x:Rat)/(y:Rat)) 64,.int .i64 (if y=0 then 3 else 0)]) []):=by
 refine bW hT sn hm WI rfl aW rfl 60 PX (fun _=>?_) K []
 simp only[af.all,az,beq_iff_eq,beq_eq_false_iff_ne,ne_eq]
 refine⟨fun hb=>⟨aa,aa,?_,bQ (by rw[if_pos hb]),trivial⟩,fun hb=>⟨⟨h1,h2⟩,⟨h3,h4⟩,⟨fG (n:=64) aa aa,fG (n:=64) aa aa,aa,aa⟩,aa,ee (Kg hb) (JY h1 h2 h3 h4 hb),bQ (by rw[if_neg hb]),trivial⟩⟩
 rw[hb,show((x:Rat)/((0:Int):Rat))=0 by rw[Rat.intCast_zero,Rat.div_def,Rat.inv_zero,Rat.mul_zero]]
 exact mK
theorem YN {n:Int} (h1:-2^63<=n) (h2:n<2^63) (K:Nat):aO P 23 K [.int .i64 n] [] (aJ (.rat (n:Rat) (max 1 (bI n.natAbs))) []):=by
 refine bW hT sn hm abd rfl aW rfl 60 TY (fun _=>?_) K []
 simp only[af.all,az]
 refine⟨⟨h1,h2⟩,aa,aa,qo Dg ?_ (by rw[Rat.num_intCast]) (by rw[Rat.den_intCast,if_pos rfl])⟩
 rw[decide_eq_decide,je,Rat.num_intCast]
theorem ZZ:bf P F5 103:=by
 refine cE fun K args r hk hs _=>?_
 split at hs
 ·simp only[ax]at hs
  subst hs
  exact fun need=>NK need.1 need.2.1 need.2.2.1 need.2.2.2 K trivial
 ·simp at hs
theorem Ut:bf P M4 92:=by
 refine cE fun K args r hk hs _=>?_
 split at hs
 ·simp only[ax]at hs
  subst hs
  exact fun need=>KN need.1 need.2 K trivial
 ·simp at hs
theorem Hp:bK P CV:=aK Ut (aK C4 (aK ZZ bU))
theorem Tv {q r:Rat} {n m:Nat} (hn:n<2^41) (hm':m<2^41) (K:Nat):aO P 53 K [.rat q n,.rat r m] [] (aJ (.rat (q-r) (n+m+1)) []):=by
 refine bW hT Hp hm S0 rfl aW rfl 60 Ws (fun _=>?_) K []
 simp only[af.all,az]
 exact⟨⟨aa,aa,hn,hm',aa⟩,aa,en (by rw[Rat.sub_eq_add_neg])⟩
theorem O9 {x y:Int} (h1:-2^63<=x) (h2:x<2^63) (h3:-2^63<=y) (h4:y<2^63) (K:Nat):aO P 46 K [.int .i64 x,.int .i64 y] [] (aJ (.rat ((x:Rat)/(y:Rat)) 64) []):=by
 refine bW hT Hp hm Qb rfl aW rfl 60 aa3 (fun _=>?_) K []
 simp only[af.all,az]
 exact⟨⟨h1,h2,h3,h4,aa⟩,⟨aa,aa⟩,aa,.refl _⟩
def DY:Spec:=bR fun l=>match l with
 |[.int .i64 n]=>some (aJ (.rat (n:Rat) (max 1 (bI n.natAbs))) [-2^63<=n,n<2^63])
 |_=>none
theorem LS:bf P DY 23:=by
 refine cE fun K args r hk hs _=>?_
 split at hs
 ·simp only[ax]at hs
  subst hs
  exact fun need=>YN need.1 need.2 K trivial
 ·simp at hs
def wZ:Spec:=bR fun l=>match l with
 |[.int .i64 x,.int .i64 y]=>some (aJ (.rat ((x:Rat)/(y:Rat)) 64) [-2^63<=x,x<2^63,-2^63<=y,y<2^63])
 |_=>none
theorem Al:bf P wZ 46:=by
 refine cE fun K args r hk hs _=>?_
 split at hs
 ·simp only[ax]at hs
  subst hs
  exact fun need=>O9 need.1 need.2.1 need.2.2.1 need.2.2.2 K trivial
 ·simp at hs
end Go.Am.B
