/- rational.Add, Sub, Mul, Quo, Cmp, Min, Max, Int. -/
import Derived.Test.YtolopdkjjlfgjaaGreatB20
set_option linter.unusedVariables false
namespace Go.Am.B
open Go Go.Am.N AV Proofs.Tryz IntKind
theorem Qw:br 128 f128:=bu func128
theorem agV:br 143 f143:=bu func143
theorem Qh:br 130 f130:=bu func130
theorem Y2:br 131 f131:=bu func131
theorem aeg:br 71 f71:=bu func71
def PJ:Spec:=cw fun l=>match l with
 |[.rat q n,.rat r m,.bool s]=>some (aM (.rat (q+sQ s r.num.natAbs r.den) (n+m+1)) [n<2^42,m<2^42])
 |_=>none
def LJ:Spec:=cw fun l=>match l with
 |[.rat q n,.rat r m]=>some (aM (.int .i64 (js q r)) [n<2^42,m<2^42])
 |_=>none
abbrev Hp:FuncId×Spec:=(166,JB)
def GA:bz:=(164,PJ)::(58,LJ)::Hp::(134,Ni)::(132,Dp)::(133,FW)::[]
theorem acQ {q r:Rat} {n m:Nat}:cB T GA [] 60 f128 (aI f128) ⟨aU 0 [.rat q n,.rat r m],[],0⟩=
  let c1:Prop:=0<1;some (af.aj [c1,c1,c1,n<2^42,m<2^42,c1] (af.aj [c1] (af.leaf aq.ret [rat (q+sQ (decide (r<0)) r.num.natAbs r.den) (n+m+1)]))):=ah
theorem SM {q r:Rat} {n m:Nat}:cB T GA [] 60 f143 (aI f143) ⟨aU 0 [.rat q n,.rat r m],[],0⟩=
  let c1:Prop:=0<1;some (af.aj [c1,c1,c1,n<2^42,m<2^42,c1] (af.aj [c1] (af.leaf aq.ret [rat (q+sQ (!decide (r<0)) r.num.natAbs r.den) (n+m+1)]))):=ah
theorem VI {q r:Rat} {n m:Nat}:cB T GA [8] 60 f130 (aI f130) ⟨aU 0 [.rat q n,.rat r m],[],0⟩=
  let c1:Prop:=0<1;some (af.aj [c1,c1,m<2^42,n<2^42] (af.fork (decide (js r q<0)) (af.aj [c1,c1] (af.aj [c1,m<2^44,c1] (af.aj [c1] (af.leaf aq.ret [rat r m])))) (af.aj [c1,n<2^44,c1] (af.aj [c1] (af.leaf aq.ret [rat q n]))))):=ah
theorem adp {q r:Rat} {n m:Nat}:cB T GA [8] 60 f131 (aI f131) ⟨aU 0 [.rat q n,.rat r m],[],0⟩=
  let c1:Prop:=0<1;some (af.aj [c1,c1,m<2^42,n<2^42] (af.fork (decide (js r q>0)) (af.aj [c1,c1] (af.aj [c1,m<2^44,c1] (af.aj [c1] (af.leaf aq.ret [rat r m])))) (af.aj [c1,n<2^44,c1] (af.aj [c1] (af.leaf aq.ret [rat q n]))))):=ah
theorem adq {n:Int}:cB T GA [] 60 f71 (aI f71) ⟨aU 0 [.int .i64 n],[],0⟩=
  let c1:Rat:=sQ (decide (n<0)) n.natAbs 1;some (af.aj [-(2:Int)^63<=n,n<2^63,nl n.natAbs<2^40,nl 1<2^40,(0:Nat)<1] (af.aj [(0:Nat)<1] (af.leaf aq.ret [rat c1 (dS c1)]))):=ah
theorem YF {q r:Rat} {n m:Nat}:cB T GQ [20,23,34,47,49,56,63,76] 60 f58 (aI f58) ⟨aU 0 [.rat q n,.rat r m],[],0⟩=
  let c14:af (List AV):=af.leaf aq.ret [int .i64 (0:Int)];let c13:Nat:=q.num.natAbs;let c12:Nat:=r.num.natAbs;let c11:af (List AV):=af.leaf aq.ret [int .i64 (1:Int)];let c10:Bool:=decide (q<0);let c9:af (List AV):=af.leaf aq.ret [int .i64 (-1:Int)];let c8:Nat:=if r.den=1 then 0 else r.den;let c7:Nat:=if q.den=1 then 0 else q.den;let c6:Nat:=2^40;let c5:Prop:=0<1;let c15:Int:=dJ (c13*r.den) (c12*q.den);let c4:Int:=u64.wrap ((↑(if fl q=true then c13 else 0):Int)*(↑(if fl r=true then r.den else 0):Int));let c3:Int:=u64.wrap ((↑(if fl r=true then c12 else 0):Int)*(↑(if fl q=true then q.den else 0):Int));let c2:af (List AV):=af.aj [c5,c5,nl c13<c6,nl r.den<c6,c5,c5,nl c12<c6,nl q.den<c6,nl (c13*r.den)<c6,nl (c12*q.den)<c6] (af.aj [c5] (af.fork c10 (af.leaf aq.ret [int .i64 (i64.wrap ((0:Int)-c15))]) (af.leaf aq.ret [int .i64 c15])));let c1:af (List AV):=af.fork (decide (c4<c3)) (af.aj [c5] (af.fork c10 c11 c9)) (af.fork (decide (c4>c3)) (af.aj [c5] (af.fork c10 c9 c11)) (af.aj [c5] (af.fork c10 c14 c14)));some (af.aj [c5,n<2^44,c5,m<2^44] (af.fork (bN q !=bN r) (af.fork (decide (bN q<bN r)) c9 c11) (af.aj [c5] (af.aj [c5,c5,nl c7<c6,nl c8<c6] (af.fork (decide (c7=c8)) (af.aj [c5,c5,nl c13<c6,nl c12<c6] (af.aj [c5] (af.fork c10 (af.leaf aq.ret [int .i64 (i64.wrap ((0:Int)-dJ c13 c12))]) (af.leaf aq.ret [int .i64 (dJ c13 c12)])))) (af.aj [c5] (af.fork (fl q) (af.aj [fl q=true] (af.fork (bif true then fl r else false) c1 c2)) (af.aj [fl q=false] (af.fork false c1 c2))))))))):=ah
theorem aex:bf P PJ 164:=by
 refine dc fun K args r hk hs _=>?_
 split at hs
 ·simp only[ay]at hs
  subst hs
  exact fun need=>Qg need.1 need.2 K [] trivial
 ·simp at hs
theorem Ar {q r:Rat} (h:bN q≠bN r):js q r=if bN q<bN r then-1 else 1:=by
 unfold bN js at*
 grind
theorem XJ {a b:Nat}:-dJ a b=dJ b a:=by unfold dJ;split<;>split<;>omega
theorem PS {a b k:Nat} (hk:0<k):dJ (a*k) (b*k)=dJ a b:=by
 unfold dJ
 simp only[Nat.mul_lt_mul_right hk]
theorem Cz {a b:Nat}:i64.wrap (0-dJ a b)=-dJ a b:=by
 have:dJ a b=-1\/dJ a b=0\/dJ a b=1:=by unfold dJ;split;exact .inl rfl;split;exact .inr (.inr rfl);exact .inr (.inl rfl)
 rcases this with h|h|h<;>rw[h]<;>rfl
theorem p9 {q r:Rat} (h:bN q=bN r):js q r=if q<0 then-dJ (q.num.natAbs*r.den) (r.num.natAbs*q.den)else dJ (q.num.natAbs*r.den) (r.num.natAbs*q.den):=by
 have h1:q<0↔r<0:=by unfold bN at h;grind
 have e1:∀{a b:Nat},(-(a:Int))*(b:Int)=-((a*b:Nat):Int):=fun {a b}=>by simp[Int.neg_mul]
 have e2:∀{a b:Nat},(a:Int)*(b:Int)=((a*b:Nat):Int):=fun {a b}=>by simp
 unfold js
 by_cases hq:q<0
 ·have hr:=h1.1 hq
  have q1:q.num=-(q.num.natAbs:Int):=by have:=jH.1 hq;omega
  have r1:r.num=-(r.num.natAbs:Int):=by have:=jH.1 hr;omega
  have l1:q<r↔r.num.natAbs*q.den<q.num.natAbs*r.den:=by
   rw[Rat.lt_iff]
   conv=>lhs;rw[q1,r1,e1,e1]
   omega
  have l2:r<q↔q.num.natAbs*r.den<r.num.natAbs*q.den:=by
   rw[Rat.lt_iff]
   conv=>lhs;rw[q1,r1,e1,e1]
   omega
  rw[if_pos hq,XJ]
  unfold dJ
  simp only[l1,l2]
 ·have hr:¬r<0:=fun h=>hq (h1.2 h)
  have q1:q.num=(q.num.natAbs:Int):=by have:¬q.num<0:=fun h=>hq (jH.2 h);omega
  have r1:r.num=(r.num.natAbs:Int):=by have:¬r.num<0:=fun h=>hr (jH.2 h);omega
  have l1:q<r↔q.num.natAbs*r.den<r.num.natAbs*q.den:=by
   rw[Rat.lt_iff]
   conv=>lhs;rw[q1,r1,e2,e2]
   omega
  have l2:r<q↔r.num.natAbs*q.den<q.num.natAbs*r.den:=by
   rw[Rat.lt_iff]
   conv=>lhs;rw[q1,r1,e2,e2]
   omega
  rw[if_neg hq]
  unfold dJ
  simp only[l1,l2]
theorem M9 {q r:Rat} {n m:Nat} (hn:n<2^42) (hm':m<2^42) (K:Nat) (pre:aE):aS P 58 K [.rat q n,.rat r m] pre (aM (.int .i64 (js q r)) []):=by
 refine lQ fun⟨hq,hr,_⟩=>?_
 have hq:Sz q n:=hq
 have hr:Sz r m:=hr
 obtain⟨a1,a2,a3⟩:=Sz.kQ hq aa
 obtain⟨b1,b2,b3⟩:=Sz.kQ hr aa
 have d1:=q.den_nz
 have d2:=r.den_nz
 have m1:nl (q.num.natAbs*r.den)<2^40:=kS (n:=n+m) (by rw[Nat.pow_add];exact Nat.mul_lt_mul'' hq.1 hr.2) aa
 have m2:nl (r.num.natAbs*q.den)<2^40:=kS (n:=m+n) (by rw[Nat.pow_add];exact Nat.mul_lt_mul'' hr.1 hq.2) aa
 refine cF hT mT hm Sl rfl aZ rfl 60 YF (fun _=>?_) K pre
 simp only[af.all,az,bne_iff_ne,ne_eq,bne_eq_false_iff_eq]
 refine⟨⟨aa,aa,aa,aa⟩,fun hs=>⟨fun hl=>cq ?_,fun hl=>cq ?_⟩,fun hs=>⟨aa,⟨aa,aa,a3,b3⟩,fun hd=>⟨⟨aa,aa,a1,b1⟩,aa,fun hc=>cq ?_,fun hc=>cq ?_⟩,fun hd=>⟨aa,fun hp=>⟨hp,fun hp2=>?_,fun hp2=>⟨⟨aa,aa,a1,b2,aa,aa,b1,a2,m1,m2⟩,aa,fun hc=>cq ?_,fun hc=>cq ?_⟩⟩,fun hp=>⟨hp,fun h=>by simp at h,fun _=>⟨⟨aa,aa,a1,b2,aa,aa,b1,a2,m1,m2⟩,aa,fun hc=>cq ?_,fun hc=>cq ?_⟩⟩⟩⟩⟩
 ·rw[Ar hs,if_pos (of_decide_eq_true hl)]
 ·rw[Ar hs,if_neg (of_decide_eq_false hl)]
 ·have hd:=of_decide_eq_true hd
  have e:q.den=r.den:=by split at hd<;>split at hd<;>omega
  rw[p9 hs,if_pos (of_decide_eq_true hc),e,PS aa,Cz]
 ·have hd:=of_decide_eq_true hd
  have e:q.den=r.den:=by split at hd<;>split at hd<;>omega
  rw[p9 hs,if_neg (of_decide_eq_false hc),e,PS aa]
 ·have hp2:=j4 hp2
  obtain⟨q1,q2⟩:=qU hp
  obtain⟨r1,r2⟩:=qU hp2
  rw[if_pos hp,if_pos hp2,if_pos hp2,if_pos hp,(pX q1 r2).1,(pX r1 q2).1]
  have hcs:=p9 hs
  generalize q.num.natAbs*r.den=X at*
  generalize r.num.natAbs*q.den=Y at*
  unfold dJ at hcs
  refine⟨fun h1=>⟨aa,fun hc=>cq ?_,fun hc=>cq ?_⟩,fun h1=>⟨fun h2=>⟨aa,fun hc=>cq ?_,fun hc=>cq ?_⟩,fun h2=>⟨aa,fun hc=>cq ?_,fun hc=>cq ?_⟩⟩⟩
  all_goals rw[hcs]
  ·rw[if_pos (of_decide_eq_true hc),if_pos (by have:=of_decide_eq_true h1;omega)];rfl
  ·rw[if_neg (of_decide_eq_false hc),if_pos (by have:=of_decide_eq_true h1;omega)]
  ·rw[if_pos (of_decide_eq_true hc),if_neg (by have:=of_decide_eq_false h1;omega),if_pos (by have:=of_decide_eq_true h2;omega)]
  ·rw[if_neg (of_decide_eq_false hc),if_neg (by have:=of_decide_eq_false h1;omega),if_pos (by have:=of_decide_eq_true h2;omega)]
  ·rw[if_pos (of_decide_eq_true hc),if_neg (by have:=of_decide_eq_false h1;omega),if_neg (by have:=of_decide_eq_false h2;omega)];rfl
  ·rw[if_neg (of_decide_eq_false hc),if_neg (by have:=of_decide_eq_false h1;omega),if_neg (by have:=of_decide_eq_false h2;omega)]
 ·rw[p9 hs,if_pos (of_decide_eq_true hc),Cz]
 ·rw[p9 hs,if_neg (of_decide_eq_false hc)]
 ·rw[p9 hs,if_pos (of_decide_eq_true hc),Cz]
 ·rw[p9 hs,if_neg (of_decide_eq_false hc)]
theorem afA:bf P LJ 58:=by
 refine dc fun K args r hk hs _=>?_
 split at hs
 ·simp only[ay]at hs
  subst hs
  exact fun need=>M9 need.1 need.2 K [] trivial
 ·simp at hs
theorem YG:bf P Hp.2 Hp.1:=SF
theorem zX:bU P GA:=aL aex (aL afA (aL YG (aL T0 (aL NS (aL Jk cG)))))
section ops
variable {q r:Rat} {n m:Nat}
theorem YB (hn:n<2^42) (hm':m<2^42) (K:Nat):aS P 128 K [.rat q n,.rat r m] [] (aM (.rat (q+r) (n+m+1)) []):=by
 refine cF hT zX hm Qw rfl aZ rfl 60 acQ (fun _=>?_) K []
 simp only[af.all,az,l7]
 exact⟨⟨aa,aa,aa,hn,hm',aa⟩,aa,.refl _⟩
theorem S6 (r:Rat):sQ (!decide (r<0)) r.num.natAbs r.den=-r:=by
 have h:=l7 r
 conv=>rhs;rw[<-h]
 unfold sQ
 rw[Rat.neg_mkRat]
 congr 1
 unfold ga
 by_cases h:r<0<;>simp[h]
theorem aa7 (hn:n<2^42) (hm':m<2^42) (K:Nat):aS P 143 K [.rat q n,.rat r m] [] (aM (.rat (q-r) (n+m+1)) []):=by
 refine cF hT zX hm agV rfl aZ rfl 60 SM (fun _=>?_) K []
 simp only[af.all,az,S6]
 exact⟨⟨aa,aa,aa,hn,hm',aa⟩,aa,eU (by rw[Rat.sub_eq_add_neg])⟩
def jc (q r:Rat):Rat:=if r<q then r else q
def jf (q r:Rat):Rat:=if q<r then r else q
theorem AB {q r:Rat}:js q r<0↔q<r:=by unfold js;grind
theorem OX {q r:Rat}:js q r>0↔r<q:=by unfold js;grind
theorem Xq (hn:n<2^42) (hm':m<2^42) (K:Nat):aS P 130 K [.rat q n,.rat r m] [] (aM (.rat (jc q r) (max n m)) []):=by
 refine cF hT zX hm Qh rfl aZ rfl 60 VI (fun _=>?_) K []
 simp only[af.all,az,bD,bI,AB]
 refine⟨⟨aa,aa,hm',hn⟩,fun h=>⟨⟨aa,aa⟩,⟨aa,aa,aa⟩,aa,?_⟩,fun h=>⟨⟨aa,aa,aa⟩,aa,?_⟩⟩
 ·unfold jc;rw[if_pos h];exact oN (Nat.le_max_right _ _)
 ·unfold jc;rw[if_neg h];exact oN (Nat.le_max_left _ _)
theorem abt (hn:n<2^42) (hm':m<2^42) (K:Nat):aS P 131 K [.rat q n,.rat r m] [] (aM (.rat (jf q r) (max n m)) []):=by
 refine cF hT zX hm Y2 rfl aZ rfl 60 adp (fun _=>?_) K []
 simp only[af.all,az,bD,bI,OX]
 refine⟨⟨aa,aa,hm',hn⟩,fun h=>⟨⟨aa,aa⟩,⟨aa,aa,aa⟩,aa,?_⟩,fun h=>⟨⟨aa,aa,aa⟩,aa,?_⟩⟩
 ·unfold jf;rw[if_pos h];exact oN (Nat.le_max_right _ _)
 ·unfold jf;rw[if_neg h];exact oN (Nat.le_max_left _ _)
theorem Xl {n:Int}:sQ (decide (n<0)) n.natAbs 1=(n:Rat):=by
 unfold sQ
 have:ga (decide (n<0)) n.natAbs=n:=by unfold ga;by_cases h:n<0<;>simp[h]<;>omega
 rw[this,Rat.mkRat_one]
theorem Hr {n:Int}:Sz (n:Rat) (max 1 (bX n.natAbs)):=by
 refine⟨?_,?_⟩
 ·rw[Rat.num_intCast]
  exact Nat.lt_of_lt_of_le (j6.1 aT) (Nat.pow_le_pow_right aa (Nat.le_max_right _ _))
 ·rw[Rat.den_intCast]
  exact Nat.lt_of_lt_of_le (show 1<2^1 by omega) (Nat.pow_le_pow_right aa (Nat.le_max_left _ _))
theorem Uo {n:Int} (h1:-2^63<=n) (h2:n<2^63) (K:Nat):aS P 71 K [.int .i64 n] [] (aM (.rat (n:Rat) (max 1 (bX n.natAbs))) []):=by
 refine cF hT zX hm aeg rfl aZ rfl 60 adq (fun _=>?_) K []
 simp only[af.all,az,Xl]
 exact⟨⟨h1,h2,kS (n:=64) aa aa,by decide,aa⟩,aa,dY rfl Hr⟩
theorem Mn (hn:n<2^42) (hm':m<2^42) (K:Nat):aS P 129 K [.rat q n,.rat r m] [] (aM (.rat (q*r) (n+m)) []):=by
 refine lQ fun⟨hq,hr,_⟩=>?_
 have hq:Sz q n:=hq
 have hr:Sz r m:=hr
 obtain⟨a1,a2,a3⟩:=Sz.kQ hq aa
 obtain⟨b1,b2,b3⟩:=Sz.kQ hr aa
 have d1:=q.den_nz
 have d2:=r.den_nz
 have m1:nl (q.num.natAbs*r.num.natAbs)<2^40:=kS (n:=n+m) (by rw[Nat.pow_add];exact Nat.mul_lt_mul'' hq.1 hr.1) aa
 have m2:nl (q.den*r.den)<2^40:=kS (n:=n+m) (by rw[Nat.pow_add];exact Nat.mul_lt_mul'' hq.2 hr.2) aa
 have hz:=hq.mul hr
 have hv:sQ (decide (q<0)!=decide (r<0)) (q.num.natAbs*r.num.natAbs) (q.den*r.den)=q*r:=by rw[<-Ei,l7,l7]
 have hzero:q=0\/r=0->bg (.agg [.bool false,.mag 0,.mag 0]) (.rat (q*r) (n+m)):=by
  intro h
  have e:q*r=0:=by rcases h with h|h<;>subst h<;>simp
  obtain⟨k,hk⟩:∃k,n+m=k+1:=⟨n+m-1,by have:=hq.pos;omega⟩
  rw[e,hk];exact pF
 refine cF hT mT hm abz rfl aZ rfl 60 YM (fun _=>?_) K []
 have hlong:(af.aj
         [(0:Nat)<1,(0:Nat)<1,(0:Nat)<1,(0:Nat)<1,nl q.num.natAbs<2^40,nl r.num.natAbs<2^40,(0:Nat)<1,(0:Nat)<1,nl q.den<2^40,nl r.den<2^40,nl (q.num.natAbs*r.num.natAbs)<2^40,nl (q.den*r.den)<2^40,(0:Nat)<1]
         (af.aj [(0:Nat)<1]
          (af.leaf aq.ret
           [AV.rat (sQ (decide (q<0)!=decide (r<0)) (q.num.natAbs*r.num.natAbs) (q.den*r.den))
             (dS (sQ (decide (q<0)!=decide (r<0)) (q.num.natAbs*r.num.natAbs) (q.den*r.den)))]))).all fun _ us=>gJ us (.rat (q*r) (n+m)):=by
  simp only[af.all,az]
  exact⟨⟨aa,aa,aa,aa,a1,b1,aa,aa,a2,b2,m1,m2,aa⟩,aa,dY hv hz⟩
 refine⟨fun hb=>⟨⟨show 0<1 by omega,hb⟩,fun _=>⟨show 0<1 by omega,show 0<1 by omega,hzero (.inl ?_)⟩,fun h=>by simp at h⟩,fun hb=>⟨⟨show 0<1 by omega,hb,show 0<1 by omega⟩,fun hc=>⟨show 0<1 by omega,show 0<1 by omega,hzero (.inr ?_)⟩,fun hc=>⟨show 0<1 by omega,fun h1=>⟨show 0<1 by omega,fun h2=>?_,fun h2=>hlong⟩,fun h1=>hlong⟩⟩⟩
 ·have:=eq_of_beq hb
  exact pV.1 (lK.1 aa)
 ·have:=eq_of_beq (jt hc)
  exact pV.1 (lK.1 aa)
 ·obtain⟨q1,q2⟩:=qU h1
  obtain⟨r1,r2⟩:=qU h2
  obtain⟨wx,bx⟩:=pX q1 r1
  obtain⟨wd,bd⟩:=pX q2 r2
  have hd0:q.den*r.den≠0:=Nat.mul_ne_zero d1 d2
  rw[if_pos h1,if_pos h2,if_pos h1,if_pos h2,wx,wd]
  simp only[af.all,az,bG]
  exact⟨⟨aa,aa,aa,aa,aa⟩,aa,dY hv hz⟩
theorem HQ (q r:Rat) (hr:r≠0):sQ (decide (q<0)!=decide (r<0)) (q.num.natAbs*r.den) (q.den*r.num.natAbs)=q/r:=by
 have hn:r.num≠0:=fun h=>hr (Rat.num_eq_zero.1 h)
 have hi:r⁻¹=sQ (decide (r<0)) r.den r.num.natAbs:=by
  rw[<-l7 r⁻¹]
  have e1:r⁻¹.num.natAbs=r.den:=by rw[Rat.num_inv,Int.natAbs_mul,Int.natAbs_natCast,Int.natAbs_sign_of_ne_zero hn,Nat.one_mul]
  have e2:r⁻¹.den=r.num.natAbs:=by rw[Rat.den_inv,if_neg hn]
  have e3:decide (r⁻¹<0)=decide (r<0):=by
   rw[decide_eq_decide,jH,jH,Rat.num_inv]
   have hd:=r.den_nz
   have hd':(0:Int)<(r.den:Int):=aa
   rcases Int.lt_trichotomy r.num 0 with h|h|h
   ·rw[Int.sign_eq_neg_one_of_neg h];omega
   ·exact absurd h hn
   ·rw[Int.sign_eq_one_of_pos h];omega
  rw[e1,e2,e3]
 rw[Rat.div_def,hi]
 conv=>rhs;rw[<-l7 q]
 rw[Ei]
theorem Ep (hn:n<2^42) (hm':m<2^42) (K:Nat):aS P 142 K [.rat q n,.rat r m] [] (aM (.tuple [.rat (q/r) (n+m),.int .i64 (if r=0 then 3 else 0)]) []):=by
 refine lQ fun⟨hq,hr,_⟩=>?_
 have hq:Sz q n:=hq
 have hr:Sz r m:=hr
 obtain⟨a1,a2,a3⟩:=Sz.kQ hq aa
 obtain⟨b1,b2,b3⟩:=Sz.kQ hr aa
 have d1:=q.den_nz
 have d2:=r.den_nz
 have m1:nl (q.num.natAbs*r.den)<2^40:=kS (n:=n+m) (by rw[Nat.pow_add];exact Nat.mul_lt_mul'' hq.1 hr.2) aa
 have m2:nl (q.den*r.num.natAbs)<2^40:=kS (n:=n+m) (by rw[Nat.pow_add];exact Nat.mul_lt_mul'' hq.2 hr.1) aa
 have hz:=hq.div hr
 have sg:∀{x:Rat},bN x=0↔x=0:=by intro x;unfold bN;grind
 refine cF hT mT hm ad9 rfl aZ rfl 60 aac (fun _=>?_) K []
 refine⟨⟨show 0<1 by omega,show m<2^44 by omega⟩,fun hb=>⟨show 0<1 by omega,show 0<1 by omega,?_,?_,trivial⟩,fun hb=>⟨show 0<1 by omega,?_⟩⟩
 ·have h0:r=0:=sg.1 (eq_of_beq hb)
  have e:q/r=0:=by rw[h0,Rat.div_def,Rat.inv_zero,Rat.mul_zero]
  obtain⟨k,hk⟩:∃k,n+m=k+1:=⟨n+m-1,by have:=hq.pos;omega⟩
  rw[e,hk];exact pF
 ·have h0:r=0:=sg.1 (eq_of_beq hb)
  exact cq (by rw[if_pos h0])
 have h0:r≠0:=fun h=>by
  rw[h]at hb
  simp[bN]at hb
 have hv:=HQ q r h0
 have he:bg (.int .i64 0) (.int .i64 (if r=0 then 3 else 0)):=cq (by rw[if_neg h0])
 have hlong:(af.aj
         [(0:Nat)<1,(0:Nat)<1,(0:Nat)<1,(0:Nat)<1,nl q.num.natAbs<2^40,nl r.den<2^40,(0:Nat)<1,(0:Nat)<1,nl q.den<2^40,nl r.num.natAbs<2^40,nl (q.num.natAbs*r.den)<2^40,nl (q.den*r.num.natAbs)<2^40,(0:Nat)<1]
         (af.aj [(0:Nat)<1]
          (af.leaf aq.ret
           [AV.rat (sQ (decide (q<0)!=decide (r<0)) (q.num.natAbs*r.den) (q.den*r.num.natAbs))
             (dS (sQ (decide (q<0)!=decide (r<0)) (q.num.natAbs*r.den) (q.den*r.num.natAbs))),.int .i64 0]))).all fun _ us=>gJ us (.tuple [.rat (q/r) (n+m),.int .i64 (if r=0 then 3 else 0)]):=by
  simp only[af.all,az]
  exact⟨⟨aa,aa,aa,aa,a1,b2,aa,aa,a2,b1,m1,m2,aa⟩,aa,dY hv hz,he,trivial⟩
 refine⟨fun h1=>⟨show 0<1 by omega,fun h2=>?_,fun h2=>hlong⟩,fun h1=>hlong⟩
 obtain⟨q1,q2⟩:=qU h1
 obtain⟨r1,r2⟩:=qU h2
 obtain⟨wx,bx⟩:=pX q1 r2
 obtain⟨wd,bd⟩:=pX q2 r1
 have hr0:r.num.natAbs≠0:=fun h=>h0 (pV.1 h)
 have hd0:q.den*r.num.natAbs≠0:=Nat.mul_ne_zero d1 hr0
 rw[if_pos h1,if_pos h2,if_pos h1,if_pos h2,wx,wd]
 simp only[af.all,az,bG]
 exact⟨⟨aa,aa,aa,aa,aa⟩,aa,dY hv hz,he,trivial⟩
end ops
def KW:Spec:=cw fun l=>match l with
 |[.int .i64 n]=>some (aM (.rat (n:Rat) (max 1 (bX n.natAbs))) [-2^63<=n,n<2^63])
 |_=>none
theorem UR:bf P KW 71:=by
 refine dc fun K args r hk hs _=>?_
 split at hs
 ·simp only[ay]at hs
  subst hs
  exact fun need=>Uo need.1 need.2 K trivial
 ·simp at hs
end Go.Am.B
