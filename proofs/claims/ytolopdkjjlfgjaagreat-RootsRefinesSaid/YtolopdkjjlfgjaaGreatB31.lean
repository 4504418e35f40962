/- ref02: Add, Sub, Mul, Cmp, Make, Frac, Int. -/
import Derived.Test.YtolopdkjjlfgjaaGreatB30
set_option linter.unusedVariables false
namespace Go.Am.B
open Go Go.Am.N AV Proofs.Tryz
theorem aeN:bf 92 f92:=bg func92
theorem UM:bf 53 f53:=bg func53
theorem UU:bf 90 f90:=bg func90
theorem T9:bf 27 f27:=bg func27
theorem ae3:bf 103 f103:=bg func103
theorem aeo:bf 46 f46:=bg func46
theorem aes:bf 23 f23:=bg func23
def r8:bk:=[(86,Ea),(85,DS),(146,KB),(147,Mo),(84,xg),(145,OP),(24,Mi),(52,zF),(82,PF)]
def L8:Spec:=cu fun l=>match l with
 |[.int .i64 x,.int .i64 y]=>some (aL (.tuple [.rat ((x:Rat)/(y:Rat)) 64,.int .i64 (if y=0 then 3 else 0)]) [-2^63<=x,x<2^63,-2^63<=y,y<2^63])
 |_=>none
def Pg:Spec:=cu fun l=>match l with
 |[.rat q n,.rat r m]=>some (aL (.rat (q+r) (n+m+1)) [n<2^41,m<2^41])
 |_=>none
def FI:bk:=[(92,Pg),(52,zF),(103,L8)]
theorem v7:bR P r8:=aJ MB (aJ Rx (aJ Vx (aJ agB (aJ Cw (aJ RN (aJ Xn (aJ C6 (aJ adh cz))))))))
theorem aaz {q r:Rat} {n m:Nat}:b9 T r8 [15,20,41,52] 60 f92 (aH f92) ⟨aU 0 [.rat q n,.rat r m],[],0⟩=
  let c10:Bool:=decide (r<0);let c9:Nat:=2^38;let c8:Nat:=q.den*r.den;let c7:Bool:=decide (q<0);let c6:Nat:=2^39;let c5:Nat:=2^40;let c3:Nat:=q.num.natAbs*r.den;let c2:Nat:=r.num.natAbs*q.den;let c1:Prop:=0<1;let c4:List Prop:=[nl c8<c9,c8≠0,c1];some (ag.aj [c1] (ag.fork ((↑(nl q.num.natAbs):Int)==0) (ag.aj [c1,c1] (ag.aj [c1] (ag.leaf aq.ret [rat r m]))) (ag.aj [c1] (ag.fork ((↑(nl r.num.natAbs):Int)==0) (ag.aj [c1,c1] (ag.aj [c1] (ag.leaf aq.ret [rat q n]))) (ag.aj [c1,c1,nl q.num.natAbs<c6,nl r.den<c6,c1,c1,nl r.num.natAbs<c6,nl q.den<c6] (ag.aj [c1,c1,nl q.den<c6,nl r.den<c6] (ag.aj [c1,c1] (ag.fork (c7==c10) (ag.aj (c1::(nl c3<c5)::(nl c2<c5)::(nl (c3+c2)<c9)::c4) (ag.aj [c1] (ag.leaf aq.ret [rat (sQ c7 (c3+c2) c8) (ef (sQ c7 (c3+c2) c8))]))) (ag.aj [nl c3<c5,nl c2<c5] (ag.fork (decide (dO c3 c2<0)) (ag.aj [nl c2<c5,nl c3<c5] (ag.aj (c1::(nl (c2-c3)<c9)::c4) (ag.aj [c1] (ag.leaf aq.ret [rat (sQ c10 (c2-c3) c8) (ef (sQ c10 (c2-c3) c8))])))) (ag.aj [nl c3<c5,nl c2<c5] (ag.aj (c1::(nl (c3-c2)<c9)::c4) (ag.aj [c1] (ag.leaf aq.ret [rat (sQ c7 (c3-c2) c8) (ef (sQ c7 (c3-c2) c8))])))))))))))))):=ah
theorem aeG {q r:Rat} {n m:Nat}:b9 T r8 [] 60 f90 (aH f90) ⟨aU 0 [.rat q n,.rat r m],[],0⟩=
  let c4:Nat:=q.num.natAbs*r.num.natAbs;let c3:Nat:=2^39;let c1:Prop:=0<1;let c2:Rat:=sQ (decide (q<0)!=decide (r<0)) c4 (q.den*r.den);some (ag.aj [c1,c1,c1,c1,nl q.num.natAbs<c3,nl r.num.natAbs<c3,c1,c1,nl q.den<c3,nl r.den<c3,nl c4<2^38,nl (q.den*r.den)<2^38,q.den*r.den≠0,c1] (ag.aj [c1] (ag.leaf aq.ret [rat c2 (ef c2)]))):=ah
theorem afb {q r:Rat} {n m:Nat}:b9 T r8 [14,17,30] 60 f27 (aH f27) ⟨aU 0 [.rat q n,.rat r m],[],0⟩=
  let c3:Int:=dO (q.num.natAbs*r.den) (r.num.natAbs*q.den);let c2:Nat:=2^39;let c1:Prop:=0<1;some (ag.aj [c1,c1] (ag.fork (bL q !=bL r) (ag.fork (decide (bL q<bL r)) (ag.leaf aq.ret [int .i64 (-1:Int)]) (ag.leaf aq.ret [int .i64 (1:Int)])) (ag.aj [c1,c1,nl q.num.natAbs<c2,nl r.den<c2,c1,c1,nl r.num.natAbs<c2,nl q.den<c2,nl (q.num.natAbs*r.den)<2^40,nl (r.num.natAbs*q.den)<2^40] (ag.aj [c1] (ag.fork (decide (q<0)) (ag.leaf aq.ret [int .i64 (IntKind.i64.wrap ((0:Int)-c3))]) (ag.leaf aq.ret [int .i64 c3])))))):=ah
theorem agb {x y:Int}:b9 T r8 [11] 60 f103 (aH f103) ⟨aU 0 [.int .i64 x,.int .i64 y],[],0⟩=
  let c3:List Prop:=[(0:Nat)<1];let c2:Int:=(2:Int)^63;let c1:Rat:=sQ (decide (x<0)!=decide (y<0)) x.natAbs y.natAbs;some (ag.fork (y==0) (ag.aj c3 (ag.aj c3 (ag.leaf aq.ret [agg [AV.bool false,mag 0,mag 0],int .i64 (3:Int)]))) (ag.aj [-c2<=x,x<c2] (ag.aj [-c2<=y,y<c2] (ag.aj ((nl x.natAbs<2^38)::(nl y.natAbs<2^38)::(y.natAbs≠0)::c3) (ag.aj c3 (ag.leaf aq.ret [rat c1 (ef c1),int .i64 (0:Int)])))))):=ah
theorem ZO {x:Int}:b9 T r8 [] 60 f23 (aH f23) ⟨aU 0 [.int .i64 x],[],0⟩=
  some (ag.aj [-(2:Int)^63<=x,x<2^63] (ag.aj [(0:Nat)<1] (ag.aj [(0:Nat)<1] (ag.leaf aq.ret [agg [AV.bool (decide (x<0)),mag x.natAbs,mag 0]])))):=ah
theorem UZ {q r:Rat} {n m:Nat}:b9 T FI [] 60 f53 (aH f53) ⟨aU 0 [.rat q n,.rat r m],[],0⟩=
  let c1:Prop:=0<1;some (ag.aj [c1,c1,n<2^41,m<2^41,c1] (ag.aj [c1] (ag.leaf aq.ret [rat (q+-r) (n+m+1)]))):=ah
theorem Zz {x y:Int}:b9 T FI [] 60 f46 (aH f46) ⟨aU 0 [.int .i64 x,.int .i64 y],[],0⟩=
  let c2:Prop:=0<1;let c1:Int:=(2:Int)^63;some (ag.aj [-c1<=x,x<c1,-c1<=y,y<c1,c2] (ag.aj [c2,c2] (ag.aj [c2] (ag.leaf aq.ret [rat ((↑x:Rat)/(↑y:Rat)) 64])))):=ah
theorem gC {N n:Nat} (h:N<2^n) (hn:n<2^42):nl N<2^38:=by
 have h1:N<2^(32*(n/32+1)):=Nat.lt_of_lt_of_le h (Nat.pow_le_pow_right aa aa)
 have:=eA.2 h1
 omega
section ops
variable {q r:Rat} {n m:Nat}
theorem p9 {a b n m:Nat} (ha:a<2^n) (hb:b<2^m):a*b<2^(n+m):=by rw[Nat.pow_add];exact Nat.mul_lt_mul'' ha hb
theorem ON (hn:n<2^41) (hm':m<2^41) (K:Nat):aQ P 92 K [.rat q n,.rat r m] [] (aL (.rat (q+r) (n+m+1)) []):=by
 refine kS fun⟨hq,hr,_⟩=>?_
 have hq:Sz q n:=hq
 have hr:Sz r m:=hr
 have d1:=q.den_nz
 have d2:=r.den_nz
 have hz:=hq.add hr
 have a1:nl q.num.natAbs<2^38:=gC hq.1 aa
 have a2:nl q.den<2^38:=gC hq.2 aa
 have b1:nl r.num.natAbs<2^38:=gC hr.1 aa
 have b2:nl r.den<2^38:=gC hr.2 aa
 have x1:=p9 hq.1 hr.2
 have x2:=p9 hr.1 hq.2
 have m1:nl (q.num.natAbs*r.den)<2^38:=gC x1 aa
 have m2:nl (r.num.natAbs*q.den)<2^38:=gC x2 aa
 have m3:nl (q.den*r.den)<2^38:=gC (p9 hq.2 hr.2) aa
 have m4:nl (q.num.natAbs*r.den+r.num.natAbs*q.den)<2^38:=gC (n:=n+m+1) (by rw[Nat.pow_succ];rw[Nat.add_comm m n]at x2;omega) aa
 have hd0:q.den*r.den≠0:=Nat.mul_ne_zero d1 d2
 have hv:q+r=sQ (decide (q<0)) (q.num.natAbs*r.den) (q.den*r.den)+sQ (decide (r<0)) (r.num.natAbs*q.den) (q.den*r.den):=by
  have:=Gr q r (decide (r<0))
  rw[mC r]at this
  exact this
 refine ck hT v7 hm aeN rfl aX rfl 60 aaz (fun _=>?_) K []
 generalize q.num.natAbs*r.den=X at*
 generalize r.num.natAbs*q.den=Y at*
 generalize q.den*r.den=D at*
 simp only[ag.all,az,beq_iff_eq,beq_eq_false_iff_ne,ne_eq,bB,bD,De]
 have m5:nl (Y-X)<2^38:=Nat.lt_of_le_of_lt (iW aa) m2
 have m6:nl (X-Y)<2^38:=Nat.lt_of_le_of_lt (iW aa) m1
 refine⟨aa,fun hb=>⟨⟨aa,aa⟩,aa,ej ?_ hz⟩,fun hb=>⟨aa,fun hb2=>⟨⟨aa,aa⟩,aa,ej ?_ hz⟩,fun hb2=>⟨⟨aa,aa,aa,aa,aa,aa,aa,aa⟩,⟨aa,aa,aa,aa⟩,⟨aa,aa⟩,
  fun hs=>⟨⟨aa,aa,aa,m4,m3,hd0,aa⟩,aa,ej ?_ hz⟩,fun hs=>⟨⟨aa,aa⟩,fun hl=>⟨⟨aa,aa⟩,⟨aa,m5,m3,hd0,aa⟩,aa,ej ?_ hz⟩,fun hl=>⟨⟨aa,aa⟩,⟨aa,m6,m3,hd0,aa⟩,aa,ej ?_ hz⟩⟩⟩⟩⟩
 ·have h0:q=0:=oE.1 (jY.1 aa)
  rw[h0,Rat.zero_add]
 ·have h0:r=0:=oE.1 (jY.1 aa)
  rw[h0,Rat.add_zero]
 ·rw[hv,hs,ID hd0]
 ·rw[hv,D3 hd0 hs aa]
 ·rw[hv,Fe hd0 hs aa]
theorem aet (hn:n<2^41) (hm':m<2^41) (K:Nat):aQ P 90 K [.rat q n,.rat r m] [] (aL (.rat (q*r) (n+m)) []):=by
 refine kS fun⟨hq,hr,_⟩=>?_
 have hq:Sz q n:=hq
 have hr:Sz r m:=hr
 have d1:=q.den_nz
 have d2:=r.den_nz
 have a1:nl q.num.natAbs<2^38:=gC hq.1 aa
 have a2:nl q.den<2^38:=gC hq.2 aa
 have b1:nl r.num.natAbs<2^38:=gC hr.1 aa
 have b2:nl r.den<2^38:=gC hr.2 aa
 have m1:nl (q.num.natAbs*r.num.natAbs)<2^38:=gC (p9 hq.1 hr.1) aa
 have m3:nl (q.den*r.den)<2^38:=gC (p9 hq.2 hr.2) aa
 have hv:sQ (decide (q<0)!=decide (r<0)) (q.num.natAbs*r.num.natAbs) (q.den*r.den)=q*r:=by rw[<-G9,mC,mC]
 refine ck hT v7 hm UU rfl aX rfl 60 aeG (fun _=>?_) K []
 simp only[ag.all,az]
 exact⟨⟨aa,aa,aa,aa,aa,aa,aa,aa,aa,aa,m1,m3,Nat.mul_ne_zero d1 d2,aa⟩,aa,ej hv (hq.mul hr)⟩
theorem ahe (hn:n<2^41) (hm':m<2^41) (K:Nat):aQ P 27 K [.rat q n,.rat r m] [] (aL (.int .i64 (fV q r)) []):=by
 refine kS fun⟨hq,hr,_⟩=>?_
 have hq:Sz q n:=hq
 have hr:Sz r m:=hr
 have a1:nl q.num.natAbs<2^38:=gC hq.1 aa
 have a2:nl q.den<2^38:=gC hq.2 aa
 have b1:nl r.num.natAbs<2^38:=gC hr.1 aa
 have b2:nl r.den<2^38:=gC hr.2 aa
 have m1:nl (q.num.natAbs*r.den)<2^38:=gC (p9 hq.1 hr.2) aa
 have m2:nl (r.num.natAbs*q.den)<2^38:=gC (p9 hr.1 hq.2) aa
 refine ck hT v7 hm T9 rfl aX rfl 60 afb (fun _=>?_) K []
 simp only[ag.all,az,bne_iff_ne,ne_eq,bne_eq_false_iff_eq]
 refine⟨⟨aa,aa⟩,fun hs=>⟨fun hl=>cw ?_,fun hl=>cw ?_⟩,fun hs=>⟨⟨aa,aa,aa,aa,aa,aa,aa,aa,aa,aa⟩,aa,fun hc=>cw ?_,fun hc=>cw ?_⟩⟩
 ·rw[Br hs,if_pos (of_decide_eq_true hl)]
 ·rw[Br hs,if_neg (of_decide_eq_false hl)]
 ·rw[qm hs,if_pos (of_decide_eq_true hc),CK]
 ·rw[qm hs,if_neg (of_decide_eq_false hc)]
end ops
theorem PY {x y:Int} (hy:y≠0):sQ (decide (x<0)!=decide (y<0)) x.natAbs y.natAbs=(x:Rat)/(y:Rat):=by
 have h:=Em (x:Rat) (y:Rat) (by simpa using hy)
 have c:∀{z:Int},decide ((z:Rat)<0)=decide (z<0):=fun {z}=>by rw[decide_eq_decide,jK,Rat.num_intCast]
 rw[c,c,Rat.num_intCast,Rat.num_intCast,Rat.den_intCast,Rat.den_intCast,Nat.mul_one,Nat.one_mul]at h
 exact h
theorem JI {x y:Int} (h1:-2^63<=x) (h2:x<2^63) (h3:-2^63<=y) (h4:y<2^63) (hy:y≠0):Sz ((x:Rat)/(y:Rat)) 64:=by
 rw[<-PY hy];exact E1 aa aa aa
theorem aeS {x y:Int} (h1:-2^63<=x) (h2:x<2^63) (h3:-2^63<=y) (h4:y<2^63) (K:Nat):aQ P 103 K [.int .i64 x,.int .i64 y] [] (aL (.tuple [.rat ((x:Rat)/(y:Rat)) 64,.int .i64 (if y=0 then 3 else 0)]) []):=by
 refine ck hT v7 hm ae3 rfl aX rfl 60 agb (fun _=>?_) K []
 simp only[ag.all,az,beq_iff_eq,beq_eq_false_iff_ne,ne_eq]
 refine⟨fun hb=>⟨aa,aa,?_,cw (by rw[if_pos hb]),trivial⟩,fun hb=>⟨⟨h1,h2⟩,⟨h3,h4⟩,⟨gC (n:=64) aa aa,gC (n:=64) aa aa,aa,aa⟩,aa,ej (PY hb) (JI h1 h2 h3 h4 hb),cw (by rw[if_neg hb]),trivial⟩⟩
 rw[hb,show((x:Rat)/((0:Int):Rat))=0 by rw[Rat.intCast_zero,Rat.div_def,Rat.inv_zero,Rat.mul_zero]]
 exact pO
theorem aju {n:Int} (h1:-2^63<=n) (h2:n<2^63) (K:Nat):aQ P 23 K [.int .i64 n] [] (aL (.rat (n:Rat) (max 1 (bV n.natAbs))) []):=by
 refine ck hT v7 hm aes rfl aX rfl 60 ZO (fun _=>?_) K []
 simp only[ag.all,az]
 refine⟨⟨h1,h2⟩,aa,aa,ug Is ?_ (by rw[Rat.num_intCast]) (by rw[Rat.den_intCast,if_pos rfl])⟩
 rw[decide_eq_decide,jK,Rat.num_intCast]
theorem U4:aY P L8 103:=by
 refine cW fun K args r hk hs _=>?_
 split at hs
 ·simp only[ay]at hs
  subst hs
  exact fun need=>aeS need.1 need.2.1 need.2.2.1 need.2.2.2 K trivial
 ·simp at hs
theorem agi:aY P Pg 92:=by
 refine cW fun K args r hk hs _=>?_
 split at hs
 ·simp only[ay]at hs
  subst hs
  exact fun need=>ON need.1 need.2 K trivial
 ·simp at hs
theorem Jb:bR P FI:=aJ agi (aJ C6 (aJ U4 cz))
theorem abe {q r:Rat} {n m:Nat} (hn:n<2^41) (hm':m<2^41) (K:Nat):aQ P 53 K [.rat q n,.rat r m] [] (aL (.rat (q-r) (n+m+1)) []):=by
 refine ck hT Jb hm UM rfl aX rfl 60 UZ (fun _=>?_) K []
 simp only[ag.all,az]
 exact⟨⟨aa,aa,hn,hm',aa⟩,aa,fk (by rw[Rat.sub_eq_add_neg])⟩
theorem Wv {x y:Int} (h1:-2^63<=x) (h2:x<2^63) (h3:-2^63<=y) (h4:y<2^63) (K:Nat):aQ P 46 K [.int .i64 x,.int .i64 y] [] (aL (.rat ((x:Rat)/(y:Rat)) 64) []):=by
 refine ck hT Jb hm aeo rfl aX rfl 60 Zz (fun _=>?_) K []
 simp only[ag.all,az]
 exact⟨⟨h1,h2,h3,h4,aa⟩,⟨aa,aa⟩,aa,.refl _⟩
def Ep:Spec:=cu fun l=>match l with
 |[.int .i64 n]=>some (aL (.rat (n:Rat) (max 1 (bV n.natAbs))) [-2^63<=n,n<2^63])
 |_=>none
theorem J0:aY P Ep 23:=by
 refine cW fun K args r hk hs _=>?_
 split at hs
 ·simp only[ay]at hs
  subst hs
  exact fun need=>aju need.1 need.2 K trivial
 ·simp at hs
def zk:Spec:=cu fun l=>match l with
 |[.int .i64 x,.int .i64 y]=>some (aL (.rat ((x:Rat)/(y:Rat)) 64) [-2^63<=x,x<2^63,-2^63<=y,y<2^63])
 |_=>none
theorem A8:aY P zk 46:=by
 refine cW fun K args r hk hs _=>?_
 split at hs
 ·simp only[ay]at hs
  subst hs
  exact fun need=>Wv need.1 need.2.1 need.2.2.1 need.2.2.2 K trivial
 ·simp at hs
end Go.Am.B
