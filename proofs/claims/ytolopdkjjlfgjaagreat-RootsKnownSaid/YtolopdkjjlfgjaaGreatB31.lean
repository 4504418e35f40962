/- ref02: Add, Sub, Mul, Cmp, Make, Frac, Int. -/
import Derived.Test.YtolopdkjjlfgjaaGreatB30
set_option linter.unusedVariables false
namespace Go.Am.B
open Go Go.Am.N AV Proofs.Tryz
theorem S9:bC 92 f92:=bD func92
theorem Sk:bC 53 f53:=bD func53
theorem XM:bC 90 f90:=bD func90
theorem UZ:bC 27 f27:=bD func27
theorem abq:bC 103 f103:=bD func103
theorem adU:bC 46 f46:=bD func46
theorem Sm:bC 23 f23:=bD func23
def tD:bG:=[(86,LN),(85,CU),(146,Ki),(147,JD),(84,xK),(145,L7),(24,KE),(52,BM),(82,OQ)]
def Jz:Spec:=cw fun l=>match l with
 |[.int .i64 x,.int .i64 y]=>some (aT (.tuple [.rat ((x:Rat)/(y:Rat)) 64,.int .i64 (if y=0 then 3 else 0)]) [-2^63<=x,x<2^63,-2^63<=y,y<2^63])
 |_=>none
def IE:Spec:=cw fun l=>match l with
 |[.rat q n,.rat r m]=>some (aT (.rat (q+r) (n+m+1)) [n<2^41,m<2^41])
 |_=>none
def G3:bG:=[(92,IE),(52,BM),(103,Jz)]
theorem v9:cm P tD:=aM aap (aM Jf (aM Qx (aM T9 (aM Bo (aM aep (aM Qg (aM C9 (aM ac9 cK))))))))
theorem SK {q r:Rat} {n m:Nat}:cy T tD [15,20,41,52] 60 f92 (aJ f92) ⟨bf 0 [.rat q n,.rat r m],[],0⟩=
  let c10:Bool:=decide (r<0);let c9:Nat:=2^38;let c8:Nat:=q.den*r.den;let c7:Bool:=decide (q<0);let c6:Nat:=2^39;let c5:Nat:=2^40;let c3:Nat:=q.num.natAbs*r.den;let c2:Nat:=r.num.natAbs*q.den;let c1:Prop:=0<1;let c4:List Prop:=[nl c8<c9,c8≠0,c1];some (af.aj [c1] (af.fork ((↑(nl q.num.natAbs):Int)==0) (af.aj [c1,c1] (af.aj [c1] (af.leaf au.ret [rat r m]))) (af.aj [c1] (af.fork ((↑(nl r.num.natAbs):Int)==0) (af.aj [c1,c1] (af.aj [c1] (af.leaf au.ret [rat q n]))) (af.aj [c1,c1,nl q.num.natAbs<c6,nl r.den<c6,c1,c1,nl r.num.natAbs<c6,nl q.den<c6] (af.aj [c1,c1,nl q.den<c6,nl r.den<c6] (af.aj [c1,c1] (af.fork (c7==c10) (af.aj (c1::(nl c3<c5)::(nl c2<c5)::(nl (c3+c2)<c9)::c4) (af.aj [c1] (af.leaf au.ret [rat (sQ c7 (c3+c2) c8) (dQ (sQ c7 (c3+c2) c8))]))) (af.aj [nl c3<c5,nl c2<c5] (af.fork (decide (dG c3 c2<0)) (af.aj [nl c2<c5,nl c3<c5] (af.aj (c1::(nl (c2-c3)<c9)::c4) (af.aj [c1] (af.leaf au.ret [rat (sQ c10 (c2-c3) c8) (dQ (sQ c10 (c2-c3) c8))])))) (af.aj [nl c3<c5,nl c2<c5] (af.aj (c1::(nl (c3-c2)<c9)::c4) (af.aj [c1] (af.leaf au.ret [rat (sQ c7 (c3-c2) c8) (dQ (sQ c7 (c3-c2) c8))])))))))))))))):=ah
theorem Sw {q r:Rat} {n m:Nat}:cy T tD [] 60 f90 (aJ f90) ⟨bf 0 [.rat q n,.rat r m],[],0⟩=
  let c4:Nat:=q.num.natAbs*r.num.natAbs;let c3:Nat:=2^39;let c1:Prop:=0<1;let c2:Rat:=sQ (decide (q<0)!=decide (r<0)) c4 (q.den*r.den);some (af.aj [c1,c1,c1,c1,nl q.num.natAbs<c3,nl r.num.natAbs<c3,c1,c1,nl q.den<c3,nl r.den<c3,nl c4<2^38,nl (q.den*r.den)<2^38,q.den*r.den≠0,c1] (af.aj [c1] (af.leaf au.ret [rat c2 (dQ c2)]))):=ah
theorem P4 {q r:Rat} {n m:Nat}:cy T tD [14,17,30] 60 f27 (aJ f27) ⟨bf 0 [.rat q n,.rat r m],[],0⟩=
  let c3:Int:=dG (q.num.natAbs*r.den) (r.num.natAbs*q.den);let c2:Nat:=2^39;let c1:Prop:=0<1;some (af.aj [c1,c1] (af.fork (bR q !=bR r) (af.fork (decide (bR q<bR r)) (af.leaf au.ret [int .i64 (-1:Int)]) (af.leaf au.ret [int .i64 (1:Int)])) (af.aj [c1,c1,nl q.num.natAbs<c2,nl r.den<c2,c1,c1,nl r.num.natAbs<c2,nl q.den<c2,nl (q.num.natAbs*r.den)<2^40,nl (r.num.natAbs*q.den)<2^40] (af.aj [c1] (af.fork (decide (q<0)) (af.leaf au.ret [int .i64 (IntKind.i64.wrap ((0:Int)-c3))]) (af.leaf au.ret [int .i64 c3])))))):=ah
theorem ado {x y:Int}:cy T tD [11] 60 f103 (aJ f103) ⟨bf 0 [.int .i64 x,.int .i64 y],[],0⟩=
  let c3:List Prop:=[(0:Nat)<1];let c2:Int:=(2:Int)^63;let c1:Rat:=sQ (decide (x<0)!=decide (y<0)) x.natAbs y.natAbs;some (af.fork (y==0) (af.aj c3 (af.aj c3 (af.leaf au.ret [agg [AV.bool false,mag 0,mag 0],int .i64 (3:Int)]))) (af.aj [-c2<=x,x<c2] (af.aj [-c2<=y,y<c2] (af.aj ((nl x.natAbs<2^38)::(nl y.natAbs<2^38)::(y.natAbs≠0)::c3) (af.aj c3 (af.leaf au.ret [rat c1 (dQ c1),int .i64 (0:Int)])))))):=ah
theorem Wo {x:Int}:cy T tD [] 60 f23 (aJ f23) ⟨bf 0 [.int .i64 x],[],0⟩=
  some (af.aj [-(2:Int)^63<=x,x<2^63] (af.aj [(0:Nat)<1] (af.aj [(0:Nat)<1] (af.leaf au.ret [agg [AV.bool (decide (x<0)),mag x.natAbs,mag 0]])))):=ah
theorem ae6 {q r:Rat} {n m:Nat}:cy T G3 [] 60 f53 (aJ f53) ⟨bf 0 [.rat q n,.rat r m],[],0⟩=
  let c1:Prop:=0<1;some (af.aj [c1,c1,n<2^41,m<2^41,c1] (af.aj [c1] (af.leaf au.ret [rat (q+-r) (n+m+1)]))):=ah
theorem aa0 {x y:Int}:cy T G3 [] 60 f46 (aJ f46) ⟨bf 0 [.int .i64 x,.int .i64 y],[],0⟩=
  let c2:Prop:=0<1;let c1:Int:=(2:Int)^63;some (af.aj [-c1<=x,x<c1,-c1<=y,y<c1,c2] (af.aj [c2,c2] (af.aj [c2] (af.leaf au.ret [rat ((↑x:Rat)/(↑y:Rat)) 64])))):=ah
theorem g7 {N n:Nat} (h:N<2^n) (hn:n<2^42):nl N<2^38:=by
 have h1:N<2^(32*(n/32+1)):=Nat.lt_of_lt_of_le h (Nat.pow_le_pow_right aa aa)
 have:=eo.2 h1
 omega
section ops
variable {q r:Rat} {n m:Nat}
theorem pI {a b n m:Nat} (ha:a<2^n) (hb:b<2^m):a*b<2^(n+m):=by rw[Nat.pow_add];exact Nat.mul_lt_mul'' ha hb
theorem JI (hn:n<2^41) (hm':m<2^41) (K:Nat):aY P 92 K [.rat q n,.rat r m] [] (aT (.rat (q+r) (n+m+1)) []):=by
 refine lX fun⟨hq,hr,_⟩=>?_
 have hq:Sz q n:=hq
 have hr:Sz r m:=hr
 have d1:=q.den_nz
 have d2:=r.den_nz
 have hz:=hq.add hr
 have a1:nl q.num.natAbs<2^38:=g7 hq.1 aa
 have a2:nl q.den<2^38:=g7 hq.2 aa
 have b1:nl r.num.natAbs<2^38:=g7 hr.1 aa
 have b2:nl r.den<2^38:=g7 hr.2 aa
 have x1:=pI hq.1 hr.2
 have x2:=pI hr.1 hq.2
 have m1:nl (q.num.natAbs*r.den)<2^38:=g7 x1 aa
 have m2:nl (r.num.natAbs*q.den)<2^38:=g7 x2 aa
 have m3:nl (q.den*r.den)<2^38:=g7 (pI hq.2 hr.2) aa
 have m4:nl (q.num.natAbs*r.den+r.num.natAbs*q.den)<2^38:=g7 (n:=n+m+1) (by rw[Nat.pow_succ];rw[Nat.add_comm m n]at x2;omega) aa
 have hd0:q.den*r.den≠0:=Nat.mul_ne_zero d1 d2
 have hv:q+r=sQ (decide (q<0)) (q.num.natAbs*r.den) (q.den*r.den)+sQ (decide (r<0)) (r.num.natAbs*q.den) (q.den*r.den):=by
  have:=EB q r (decide (r<0))
  rw[mF r]at this
  exact this
 refine cB hT v9 hm S9 rfl br rfl 60 SK (fun _=>?_) K []
 generalize q.num.natAbs*r.den=X at*
 generalize r.num.natAbs*q.den=Y at*
 generalize q.den*r.den=D at*
 simp only[af.all,aF,beq_iff_eq,beq_eq_false_iff_ne,ne_eq,bI,bO,Ar]
 have m5:nl (Y-X)<2^38:=Nat.lt_of_le_of_lt (jt aa) m2
 have m6:nl (X-Y)<2^38:=Nat.lt_of_le_of_lt (jt aa) m1
 refine⟨aa,fun hb=>⟨⟨aa,aa⟩,aa,fO ?_ hz⟩,fun hb=>⟨aa,fun hb2=>⟨⟨aa,aa⟩,aa,fO ?_ hz⟩,fun hb2=>⟨⟨aa,aa,aa,aa,aa,aa,aa,aa⟩,⟨aa,aa,aa,aa⟩,⟨aa,aa⟩,
  fun hs=>⟨⟨aa,aa,aa,m4,m3,hd0,aa⟩,aa,fO ?_ hz⟩,fun hs=>⟨⟨aa,aa⟩,fun hl=>⟨⟨aa,aa⟩,⟨aa,m5,m3,hd0,aa⟩,aa,fO ?_ hz⟩,fun hl=>⟨⟨aa,aa⟩,⟨aa,m6,m3,hd0,aa⟩,aa,fO ?_ hz⟩⟩⟩⟩⟩
 ·have h0:q=0:=oS.1 (kA.1 aa)
  rw[h0,Rat.zero_add]
 ·have h0:r=0:=oS.1 (kA.1 aa)
  rw[h0,Rat.add_zero]
 ·rw[hv,hs,ET hd0]
 ·rw[hv,C0 hd0 hs aa]
 ·rw[hv,Fl hd0 hs aa]
theorem R6 (hn:n<2^41) (hm':m<2^41) (K:Nat):aY P 90 K [.rat q n,.rat r m] [] (aT (.rat (q*r) (n+m)) []):=by
 refine lX fun⟨hq,hr,_⟩=>?_
 have hq:Sz q n:=hq
 have hr:Sz r m:=hr
 have d1:=q.den_nz
 have d2:=r.den_nz
 have a1:nl q.num.natAbs<2^38:=g7 hq.1 aa
 have a2:nl q.den<2^38:=g7 hq.2 aa
 have b1:nl r.num.natAbs<2^38:=g7 hr.1 aa
 have b2:nl r.den<2^38:=g7 hr.2 aa
 have m1:nl (q.num.natAbs*r.num.natAbs)<2^38:=g7 (pI hq.1 hr.1) aa
 have m3:nl (q.den*r.den)<2^38:=g7 (pI hq.2 hr.2) aa
 have hv:sQ (decide (q<0)!=decide (r<0)) (q.num.natAbs*r.num.natAbs) (q.den*r.den)=q*r:=by rw[<-G5,mF,mF]
 refine cB hT v9 hm XM rfl br rfl 60 Sw (fun _=>?_) K []
 simp only[af.all,aF]
 exact⟨⟨aa,aa,aa,aa,aa,aa,aa,aa,aa,aa,m1,m3,Nat.mul_ne_zero d1 d2,aa⟩,aa,fO hv (hq.mul hr)⟩
theorem SP (hn:n<2^41) (hm':m<2^41) (K:Nat):aY P 27 K [.rat q n,.rat r m] [] (aT (.int .i64 (gr q r)) []):=by
 refine lX fun⟨hq,hr,_⟩=>?_
 have hq:Sz q n:=hq
 have hr:Sz r m:=hr
 have a1:nl q.num.natAbs<2^38:=g7 hq.1 aa
 have a2:nl q.den<2^38:=g7 hq.2 aa
 have b1:nl r.num.natAbs<2^38:=g7 hr.1 aa
 have b2:nl r.den<2^38:=g7 hr.2 aa
 have m1:nl (q.num.natAbs*r.den)<2^38:=g7 (pI hq.1 hr.2) aa
 have m2:nl (r.num.natAbs*q.den)<2^38:=g7 (pI hr.1 hq.2) aa
 refine cB hT v9 hm UZ rfl br rfl 60 P4 (fun _=>?_) K []
 simp only[af.all,aF,bne_iff_ne,ne_eq,bne_eq_false_iff_eq]
 refine⟨⟨aa,aa⟩,fun hs=>⟨fun hl=>cu ?_,fun hl=>cu ?_⟩,fun hs=>⟨⟨aa,aa,aa,aa,aa,aa,aa,aa,aa,aa⟩,aa,fun hc=>cu ?_,fun hc=>cu ?_⟩⟩
 ·rw[Cs hs,if_pos (of_decide_eq_true hl)]
 ·rw[Cs hs,if_neg (of_decide_eq_false hl)]
 ·rw[qc hs,if_pos (of_decide_eq_true hc),AK]
 ·rw[qc hs,if_neg (of_decide_eq_false hc)]
end ops
theorem Na {x y:Int} (hy:y≠0):sQ (decide (x<0)!=decide (y<0)) x.natAbs y.natAbs=(x:Rat)/(y:Rat):=by
 have h:=CR (x:Rat) (y:Rat) (by simpa using hy)
 have c:∀{z:Int},decide ((z:Rat)<0)=decide (z<0):=fun {z}=>by rw[decide_eq_decide,jX,Rat.num_intCast]
 rw[c,c,Rat.num_intCast,Rat.num_intCast,Rat.den_intCast,Rat.den_intCast,Nat.mul_one,Nat.one_mul]at h
 exact h
theorem Tw {x y:Int} (h1:-2^63<=x) (h2:x<2^63) (h3:-2^63<=y) (h4:y<2^63) (hy:y≠0):Sz ((x:Rat)/(y:Rat)) 64:=by
 rw[<-Na hy];exact Ev aa aa aa
theorem TS {x y:Int} (h1:-2^63<=x) (h2:x<2^63) (h3:-2^63<=y) (h4:y<2^63) (K:Nat):aY P 103 K [.int .i64 x,.int .i64 y] [] (aT (.tuple [.rat ((x:Rat)/(y:Rat)) 64,.int .i64 (if y=0 then 3 else 0)]) []):=by
 refine cB hT v9 hm abq rfl br rfl 60 ado (fun _=>?_) K []
 simp only[af.all,aF,beq_iff_eq,beq_eq_false_iff_ne,ne_eq]
 refine⟨fun hb=>⟨aa,aa,?_,cu (by rw[if_pos hb]),trivial⟩,fun hb=>⟨⟨h1,h2⟩,⟨h3,h4⟩,⟨g7 (n:=64) aa aa,g7 (n:=64) aa aa,aa,aa⟩,aa,fO (Na hb) (Tw h1 h2 h3 h4 hb),cu (by rw[if_neg hb]),trivial⟩⟩
 rw[hb,show((x:Rat)/((0:Int):Rat))=0 by rw[Rat.intCast_zero,Rat.div_def,Rat.inv_zero,Rat.mul_zero]]
 exact pD
theorem ae0 {n:Int} (h1:-2^63<=n) (h2:n<2^63) (K:Nat):aY P 23 K [.int .i64 n] [] (aT (.rat (n:Rat) (max 1 (bU n.natAbs))) []):=by
 refine cB hT v9 hm Sm rfl br rfl 60 Wo (fun _=>?_) K []
 simp only[af.all,aF]
 refine⟨⟨h1,h2⟩,aa,aa,sD CM ?_ (by rw[Rat.num_intCast]) (by rw[Rat.den_intCast,if_pos rfl])⟩
 rw[decide_eq_decide,jX,Rat.num_intCast]
theorem aaq:bF P Jz 103:=by
 refine cY fun K args r hk hs _=>?_
 split at hs
 ·simp only[aB]at hs
  subst hs
  exact fun need=>TS need.1 need.2.1 need.2.2.1 need.2.2.2 K trivial
 ·simp at hs
theorem XJ:bF P IE 92:=by
 refine cY fun K args r hk hs _=>?_
 split at hs
 ·simp only[aB]at hs
  subst hs
  exact fun need=>JI need.1 need.2 K trivial
 ·simp at hs
theorem Ls:cm P G3:=aM XJ (aM C9 (aM aaq cK))
theorem aeP {q r:Rat} {n m:Nat} (hn:n<2^41) (hm':m<2^41) (K:Nat):aY P 53 K [.rat q n,.rat r m] [] (aT (.rat (q-r) (n+m+1)) []):=by
 refine cB hT Ls hm Sk rfl br rfl 60 ae6 (fun _=>?_) K []
 simp only[af.all,aF]
 exact⟨⟨aa,aa,hn,hm',aa⟩,aa,fo (by rw[Rat.sub_eq_add_neg])⟩
theorem TQ {x y:Int} (h1:-2^63<=x) (h2:x<2^63) (h3:-2^63<=y) (h4:y<2^63) (K:Nat):aY P 46 K [.int .i64 x,.int .i64 y] [] (aT (.rat ((x:Rat)/(y:Rat)) 64) []):=by
 refine cB hT Ls hm adU rfl br rfl 60 aa0 (fun _=>?_) K []
 simp only[af.all,aF]
 exact⟨⟨h1,h2,h3,h4,aa⟩,⟨aa,aa⟩,aa,.refl _⟩
def OV:Spec:=cw fun l=>match l with
 |[.int .i64 n]=>some (aT (.rat (n:Rat) (max 1 (bU n.natAbs))) [-2^63<=n,n<2^63])
 |_=>none
theorem X2:bF P OV 23:=by
 refine cY fun K args r hk hs _=>?_
 split at hs
 ·simp only[aB]at hs
  subst hs
  exact fun need=>ae0 need.1 need.2 K trivial
 ·simp at hs
def Ay:Spec:=cw fun l=>match l with
 |[.int .i64 x,.int .i64 y]=>some (aT (.rat ((x:Rat)/(y:Rat)) 64) [-2^63<=x,x<2^63,-2^63<=y,y<2^63])
 |_=>none
theorem Ff:bF P Ay 46:=by
 refine cY fun K args r hk hs _=>?_
 split at hs
 ·simp only[aB]at hs
  subst hs
  exact fun need=>TQ need.1 need.2.1 need.2.2.1 need.2.2.2 K trivial
 ·simp at hs
end Go.Am.B
