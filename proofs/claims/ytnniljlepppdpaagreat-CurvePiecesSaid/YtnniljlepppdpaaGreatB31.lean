/- ref02: Add, Sub, Mul, Cmp, Make, Frac, Int. -/
import Derived.Test.YtnniljlepppdpaaGreatB30
set_option linter.unusedVariables false
namespace Go.Am.B
open Go Go.Am.N AV
theorem ahe:aU P tJ Ba (az Ba):=aT Proofs.Tryz.func25 ah ah ah
theorem aag:aU P By CF (az CF):=aT Proofs.Tryz.func23 ah ah ah
theorem XA:aU P AO zn (az zn):=aT Proofs.Tryz.func78 ah ah ah
theorem ae1:aU P Ap A9 (az A9):=aT Proofs.Tryz.func19 ah ah ah
theorem Z5:aU P CI B1 (az B1):=aT Proofs.Tryz.func178 ah ah ah
theorem aeY:aU P qX Cp (az Cp):=aT Proofs.Tryz.func73 ah ah ah
theorem VU:aU P o5 CN (az CN):=aT Proofs.Tryz.func21 ah ah ah
def uO:aV:=[(En,Jl),(wA,Ie),(CC,Kj),(DM,NZ),(rz,xB),(Et,Qe),(tv,Q9),(xL,FM),(CX,KE)]
def Lr:Spec:=bM fun l=>match l with
 |[.int .i64 x,.int .i64 y]=>some (aL (.tuple [.rat ((x:Rat)/(y:Rat)) 64,.int .i64 (if y=0 then 3 else 0)]) [-2^63<=x,x<2^63,-2^63<=y,y<2^63])
 |_=>none
def Ls:Spec:=bM fun l=>match l with
 |[.rat q n,.rat r m]=>some (aL (.rat (q+r) (n+m+1)) [n<2^41,m<2^41])
 |_=>none
def E6:aV:=[(tJ,Ls),(xL,FM),(CI,Lr)]
theorem wN:bn P uO:=aI aeM (aI Mu (aI UZ (aI Sd (aI BI (aI TN (aI Uj (aI OS (aI Yo bE))))))))
theorem ajl {q r:Rat} {n m:Nat}:bP T uO [15,20,41,52] 60 Ba (az Ba) ⟨aQ 0 [.rat q n,.rat r m],[],0⟩=
  let c10:Bool:=decide (r<0);let c9:Nat:=2^38;let c8:Nat:=q.den*r.den;let c7:Bool:=decide (q<0);let c6:Nat:=2^39;let c5:Nat:=2^40;let c3:Nat:=q.num.natAbs*r.den;let c2:Nat:=r.num.natAbs*q.den;let c1:Prop:=0<1;let c4:List Prop:=[nl c8<c9,c8≠0,c1];some (ag.aj [c1] (ag.fork ((↑(nl q.num.natAbs):Int)==(0:Int)) (ag.aj [c1,c1] (ag.aj [c1] (ag.leaf ak.ret [rat r m]))) (ag.aj [c1] (ag.fork ((↑(nl r.num.natAbs):Int)==(0:Int)) (ag.aj [c1,c1] (ag.aj [c1] (ag.leaf ak.ret [rat q n]))) (ag.aj [c1,c1,nl q.num.natAbs<c6,nl r.den<c6,c1,c1,nl r.num.natAbs<c6,nl q.den<c6] (ag.aj [c1,c1,nl q.den<c6,nl r.den<c6] (ag.aj [c1,c1] (ag.fork (c7==c10) (ag.aj (c1::(nl c3<c5)::(nl c2<c5)::(nl (c3+c2)<c9)::c4) (ag.aj [c1] (ag.leaf ak.ret [rat (sQ c7 (c3+c2) c8) (cK (sQ c7 (c3+c2) c8))]))) (ag.aj [nl c3<c5,nl c2<c5] (ag.fork (decide (cO c3 c2<(0:Int))) (ag.aj [nl c2<c5,nl c3<c5] (ag.aj (c1::(nl (c2-c3)<c9)::c4) (ag.aj [c1] (ag.leaf ak.ret [rat (sQ c10 (c2-c3) c8) (cK (sQ c10 (c2-c3) c8))])))) (ag.aj [nl c3<c5,nl c2<c5] (ag.aj (c1::(nl (c3-c2)<c9)::c4) (ag.aj [c1] (ag.leaf ak.ret [rat (sQ c7 (c3-c2) c8) (cK (sQ c7 (c3-c2) c8))])))))))))))))):=ah
theorem aep {q r:Rat} {n m:Nat}:bP T uO [] 60 zn (az zn) ⟨aQ 0 [.rat q n,.rat r m],[],0⟩=
  let c4:Nat:=q.num.natAbs*r.num.natAbs;let c3:Nat:=2^39;let c1:Prop:=0<1;let c2:Rat:=sQ (decide (q<0)!=decide (r<0)) c4 (q.den*r.den);some (ag.aj [c1,c1,c1,c1,nl q.num.natAbs<c3,nl r.num.natAbs<c3,c1,c1,nl q.den<c3,nl r.den<c3,nl c4<2^38,nl (q.den*r.den)<2^38,q.den*r.den≠0,c1] (ag.aj [c1] (ag.leaf ak.ret [rat c2 (cK c2)]))):=ah
theorem Vi {q r:Rat} {n m:Nat}:bP T uO [14,17,30] 60 A9 (az A9) ⟨aQ 0 [.rat q n,.rat r m],[],0⟩=
  let c3 : Int := cO (q.num.natAbs * r.den) (r.num.natAbs * q.den); let c2 : Nat := 2 ^ 39; let c1 : Prop := 0 < 1; some (ag.aj [c1, c1] (ag.fork (eP q != eP r) (ag.fork (decide (eP q < eP r)) (ag.leaf ak.ret [int IntKind.i64 (-1 : Int)]) (ag.leaf ak.ret [int IntKind.i64 (1 : Int)])) (ag.aj [c1, c1, nl q.num.natAbs < c2, nl r.den < c2, c1, c1, nl r.num.natAbs < c2, nl q.den < c2, nl (q.num.natAbs * r.den) < 2 ^ 40, nl (r.num.natAbs * q.den) < 2 ^ 40] (ag.aj [c1] (ag.fork (decide (q < 0)) (ag.leaf ak.ret [int IntKind.i64 (IntKind.i64.wrap ((0 : Int) - c3))]) (ag.leaf ak.ret [int IntKind.i64 c3])))))) := ah
theorem ad0 {x y:Int}:bP T uO [11] 60 B1 (az B1) ⟨aQ 0 [.int .i64 x,.int .i64 y],[],0⟩=
  let c3:List Prop:=[(0:Nat)<1];let c2:Int:=(2:Int)^63;let c1:Rat:=sQ (decide (x<(0:Int))!=decide (y<(0:Int))) x.natAbs y.natAbs;some (ag.fork (y==(0:Int)) (ag.aj c3 (ag.aj c3 (ag.leaf ak.ret [agg [AV.bool false,mag 0,mag 0],int IntKind.i64 (3:Int)]))) (ag.aj [-c2<=x,x<c2] (ag.aj [-c2<=y,y<c2] (ag.aj ((nl x.natAbs<2^38)::(nl y.natAbs<2^38)::(y.natAbs≠0)::c3) (ag.aj c3 (ag.leaf ak.ret [rat c1 (cK c1),int IntKind.i64 (0:Int)])))))):=ah
theorem ZY {x:Int}:bP T uO [] 60 CN (az CN) ⟨aQ 0 [.int .i64 x],[],0⟩=
  some (ag.aj [-(2:Int)^63<=x,x<(2:Int)^63] (ag.aj [(0:Nat)<1] (ag.aj [(0:Nat)<1] (ag.leaf ak.ret [agg [AV.bool (decide (x<(0:Int))),mag x.natAbs,mag 0]])))):=ah
theorem ado {q r:Rat} {n m:Nat}:bP T E6 [] 60 CF (az CF) ⟨aQ 0 [.rat q n,.rat r m],[],0⟩=
  let c1:Prop:=0<1;some (ag.aj [c1,c1,n<2^41,m<2^41,c1] (ag.aj [c1] (ag.leaf ak.ret [rat (q+-r) (n+m+1)]))):=ah
theorem XB {x y:Int}:bP T E6 [] 60 Cp (az Cp) ⟨aQ 0 [.int .i64 x,.int .i64 y],[],0⟩=
  let c2:Prop:=0<1;let c1:Int:=(2:Int)^63;some (ag.aj [-c1<=x,x<c1,-c1<=y,y<c1,c2] (ag.aj [c2,c2] (ag.aj [c2] (ag.leaf ak.ret [rat ((↑x:Rat)/(↑y:Rat)) 64])))):=ah
theorem gq {N n:Nat} (h:N<2^n) (hn:n<2^42):nl N<2^38:=by
 have h1:N<2^(32*(n/32+1)):=Nat.lt_of_lt_of_le h (Nat.pow_le_pow_right aa aa)
 have:=dm.2 h1
 omega
section ops
variable {q r:Rat} {n m:Nat}
theorem rI {a b n m:Nat} (ha:a<2^n) (hb:b<2^m):a*b<2^(n+m):=by rw[Nat.pow_add];exact Nat.mul_lt_mul'' ha hb
theorem I4 (hn:n<2^41) (hm':m<2^41) (K:Nat):aD P tJ K [.rat q n,.rat r m] [] (aL (.rat (q+r) (n+m+1)) []):=by
 refine jw fun⟨hq,hr,_⟩=>?_
 have hq:Sz q n:=hq
 have hr:Sz r m:=hr
 have d1:=q.den_nz
 have d2:=r.den_nz
 have hz:=hq.add hr
 have a1:nl q.num.natAbs<2^38:=gq hq.1 aa
 have a2:nl q.den<2^38:=gq hq.2 aa
 have b1:nl r.num.natAbs<2^38:=gq hr.1 aa
 have b2:nl r.den<2^38:=gq hr.2 aa
 have x1:=rI hq.1 hr.2
 have x2:=rI hr.1 hq.2
 have m1:nl (q.num.natAbs*r.den)<2^38:=gq x1 aa
 have m2:nl (r.num.natAbs*q.den)<2^38:=gq x2 aa
 have m3:nl (q.den*r.den)<2^38:=gq (rI hq.2 hr.2) aa
 have m4:nl (q.num.natAbs*r.den+r.num.natAbs*q.den)<2^38:=gq (n:=n+m+1) (by rw[Nat.pow_succ];rw[Nat.add_comm m n]at x2;omega) aa
 have hd0:q.den*r.den≠0:=Nat.mul_ne_zero d1 d2
 have hv:q+r=sQ (decide (q<0)) (q.num.natAbs*r.den) (q.den*r.den)+sQ (decide (r<0)) (r.num.natAbs*q.den) (q.den*r.den):=by
  have:=Ew q r (decide (r<0))
  rw[kJ r]at this
  exact this
 refine bW hT wN hm ahe rfl aW rfl 60 ajl (fun _=>?_) K []
 generalize q.num.natAbs*r.den=X at*
 generalize r.num.natAbs*q.den=Y at*
 generalize q.den*r.den=D at*
 simp only[ag.all,aA,beq_iff_eq,beq_eq_false_iff_ne,ne_eq,bf,bt,Eh]
 have m5:nl (Y-X)<2^38:=Nat.lt_of_le_of_lt (gJ aa) m2
 have m6:nl (X-Y)<2^38:=Nat.lt_of_le_of_lt (gJ aa) m1
 refine⟨aa,fun hb=>⟨⟨aa,aa⟩,aa,cV ?_ hz⟩,fun hb=>⟨aa,fun hb2=>⟨⟨aa,aa⟩,aa,cV ?_ hz⟩,fun hb2=>⟨⟨aa,aa,aa,aa,aa,aa,aa,aa⟩,⟨aa,aa,aa,aa⟩,⟨aa,aa⟩,
  fun hs=>⟨⟨aa,aa,aa,m4,m3,hd0,aa⟩,aa,cV ?_ hz⟩,fun hs=>⟨⟨aa,aa⟩,fun hl=>⟨⟨aa,aa⟩,⟨aa,m5,m3,hd0,aa⟩,aa,cV ?_ hz⟩,fun hl=>⟨⟨aa,aa⟩,⟨aa,m6,m3,hd0,aa⟩,aa,cV ?_ hz⟩⟩⟩⟩⟩
 ·have h0:q=0:=oL.1 (ja.1 aa)
  rw[h0,Rat.zero_add]
 ·have h0:r=0:=oL.1 (ja.1 aa)
  rw[h0,Rat.add_zero]
 ·rw[hv,hs,HD hd0]
 ·rw[hv,Gh hd0 hs aa]
 ·rw[hv,FX hd0 hs aa]
theorem JW (hn:n<2^41) (hm':m<2^41) (K:Nat):aD P AO K [.rat q n,.rat r m] [] (aL (.rat (q*r) (n+m)) []):=by
 refine jw fun⟨hq,hr,_⟩=>?_
 have hq:Sz q n:=hq
 have hr:Sz r m:=hr
 have d1:=q.den_nz
 have d2:=r.den_nz
 have a1:nl q.num.natAbs<2^38:=gq hq.1 aa
 have a2:nl q.den<2^38:=gq hq.2 aa
 have b1:nl r.num.natAbs<2^38:=gq hr.1 aa
 have b2:nl r.den<2^38:=gq hr.2 aa
 have m1:nl (q.num.natAbs*r.num.natAbs)<2^38:=gq (rI hq.1 hr.1) aa
 have m3:nl (q.den*r.den)<2^38:=gq (rI hq.2 hr.2) aa
 have hv:sQ (decide (q<0)!=decide (r<0)) (q.num.natAbs*r.num.natAbs) (q.den*r.den)=q*r:=by rw[<-Ja,kJ,kJ]
 refine bW hT wN hm XA rfl aW rfl 60 aep (fun _=>?_) K []
 simp only[ag.all,aA]
 exact⟨⟨aa,aa,aa,aa,aa,aa,aa,aa,aa,aa,m1,m3,Nat.mul_ne_zero d1 d2,aa⟩,aa,cV hv (hq.mul hr)⟩
theorem Pe (hn:n<2^41) (hm':m<2^41) (K:Nat):aD P Ap K [.rat q n,.rat r m] [] (aL (.int .i64 (ek q r)) []):=by
 refine jw fun⟨hq,hr,_⟩=>?_
 have hq:Sz q n:=hq
 have hr:Sz r m:=hr
 have a1:nl q.num.natAbs<2^38:=gq hq.1 aa
 have a2:nl q.den<2^38:=gq hq.2 aa
 have b1:nl r.num.natAbs<2^38:=gq hr.1 aa
 have b2:nl r.den<2^38:=gq hr.2 aa
 have m1:nl (q.num.natAbs*r.den)<2^38:=gq (rI hq.1 hr.2) aa
 have m2:nl (r.num.natAbs*q.den)<2^38:=gq (rI hr.1 hq.2) aa
 refine bW hT wN hm ae1 rfl aW rfl 60 Vi (fun _=>?_) K []
 simp only[ag.all,aA,bne_iff_ne,ne_eq,bne_eq_false_iff_eq]
 refine⟨⟨aa,aa⟩,fun hs=>⟨fun hl=>bJ ?_,fun hl=>bJ ?_⟩,fun hs=>⟨⟨aa,aa,aa,aa,aa,aa,aa,aa,aa,aa⟩,aa,fun hc=>bJ ?_,fun hc=>bJ ?_⟩⟩
 ·rw[zZ hs,if_pos (of_decide_eq_true hl)]
 ·rw[zZ hs,if_neg (of_decide_eq_false hl)]
 ·rw[oz hs,if_pos (of_decide_eq_true hc),zq]
 ·rw[oz hs,if_neg (of_decide_eq_false hc)]
end ops
theorem IS {x y:Int} (hy:y≠0):sQ (decide (x<0)!=decide (y<0)) x.natAbs y.natAbs=(x:Rat)/(y:Rat):=by
 have h:=JP (x:Rat) (y:Rat) (by simpa using hy)
 have c:∀{z:Int},decide ((z:Rat)<0)=decide (z<0):=fun {z}=>by rw[decide_eq_decide,iN,Rat.num_intCast]
 rw[c,c,Rat.num_intCast,Rat.num_intCast,Rat.den_intCast,Rat.den_intCast,Nat.mul_one,Nat.one_mul]at h
 exact h
theorem QY {x y:Int} (h1:-2^63<=x) (h2:x<2^63) (h3:-2^63<=y) (h4:y<2^63) (hy:y≠0):Sz ((x:Rat)/(y:Rat)) 64:=by
 rw[<-IS hy];exact Cl aa aa aa
theorem afw {x y:Int} (h1:-2^63<=x) (h2:x<2^63) (h3:-2^63<=y) (h4:y<2^63) (K:Nat):aD P CI K [.int .i64 x,.int .i64 y] [] (aL (.tuple [.rat ((x:Rat)/(y:Rat)) 64,.int .i64 (if y=0 then 3 else 0)]) []):=by
 refine bW hT wN hm Z5 rfl aW rfl 60 ad0 (fun _=>?_) K []
 simp only[ag.all,aA,beq_iff_eq,beq_eq_false_iff_ne,ne_eq]
 refine⟨fun hb=>⟨aa,aa,?_,bJ (by rw[if_pos hb]),trivial⟩,fun hb=>⟨⟨h1,h2⟩,⟨h3,h4⟩,⟨gq (n:=64) aa aa,gq (n:=64) aa aa,aa,aa⟩,aa,cV (IS hb) (QY h1 h2 h3 h4 hb),bJ (by rw[if_neg hb]),trivial⟩⟩
 rw[hb,show((x:Rat)/((0:Int):Rat))=0 by rw[Rat.intCast_zero,Rat.div_def,Rat.inv_zero,Rat.mul_zero]]
 exact nh
theorem JR {n:Int} (h1:-2^63<=n) (h2:n<2^63) (K:Nat):aD P o5 K [.int .i64 n] [] (aL (.rat (n:Rat) (max 1 (bG n.natAbs))) []):=by
 refine bW hT wN hm VU rfl aW rfl 60 ZY (fun _=>?_) K []
 simp only[ag.all,aA]
 refine⟨⟨h1,h2⟩,aa,aa,rE FT ?_ (by rw[Rat.num_intCast]) (by rw[Rat.den_intCast,if_pos rfl])⟩
 rw[decide_eq_decide,iN,Rat.num_intCast]
theorem Yh:∀K args pre r,Lr K args pre=some r->aD P CI K args pre r:=by
 refine ct fun K args r hk hs _=>?_
 split at hs
 ·simp only[au]at hs
  subst hs
  exact fun need=>afw need.1 need.2.1 need.2.2.1 need.2.2.2 K trivial
 ·simp at hs
theorem SD:∀K args pre r,Ls K args pre=some r->aD P tJ K args pre r:=by
 refine ct fun K args r hk hs _=>?_
 split at hs
 ·simp only[au]at hs
  subst hs
  exact fun need=>I4 need.1 need.2 K trivial
 ·simp at hs
theorem QG:bn P E6:=aI SD (aI OS (aI Yh bE))
theorem JU {q r:Rat} {n m:Nat} (hn:n<2^41) (hm':m<2^41) (K:Nat):aD P By K [.rat q n,.rat r m] [] (aL (.rat (q-r) (n+m+1)) []):=by
 refine bW hT QG hm aag rfl aW rfl 60 ado (fun _=>?_) K []
 simp only[ag.all,aA]
 exact⟨⟨aa,aa,hn,hm',aa⟩,aa,dD (by rw[Rat.sub_eq_add_neg])⟩
theorem ahK {x y:Int} (h1:-2^63<=x) (h2:x<2^63) (h3:-2^63<=y) (h4:y<2^63) (K:Nat):aD P qX K [.int .i64 x,.int .i64 y] [] (aL (.rat ((x:Rat)/(y:Rat)) 64) []):=by
 refine bW hT QG hm aeY rfl aW rfl 60 XB (fun _=>?_) K []
 simp only[ag.all,aA]
 exact⟨⟨h1,h2,h3,h4,aa⟩,⟨aa,aa⟩,aa,.refl _⟩
def ye:Spec:=bM fun l=>match l with
 |[.int .i64 n]=>some (aL (.rat (n:Rat) (max 1 (bG n.natAbs))) [-2^63<=n,n<2^63])
 |_=>none
theorem BY:∀K args pre r,ye K args pre=some r->aD P o5 K args pre r:=by
 refine ct fun K args r hk hs _=>?_
 split at hs
 ·simp only[au]at hs
  subst hs
  exact fun need=>JR need.1 need.2 K trivial
 ·simp at hs
def wX:Spec:=bM fun l=>match l with
 |[.int .i64 x,.int .i64 y]=>some (aL (.rat ((x:Rat)/(y:Rat)) 64) [-2^63<=x,x<2^63,-2^63<=y,y<2^63])
 |_=>none
theorem D8:∀K args pre r,wX K args pre=some r->aD P qX K args pre r:=by
 refine ct fun K args r hk hs _=>?_
 split at hs
 ·simp only[au]at hs
  subst hs
  exact fun need=>ahK need.1 need.2.1 need.2.2.1 need.2.2.2 K trivial
 ·simp at hs
end Go.Am.B
