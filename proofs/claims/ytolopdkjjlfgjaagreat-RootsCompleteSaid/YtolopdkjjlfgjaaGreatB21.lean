/- rational.Add, Sub, Mul, Quo, Cmp, Min, Max, Int. -/
import Derived.Test.YtolopdkjjlfgjaaGreatB20
set_option linter.unusedVariables false
namespace Go.Am.B
open Go Go.Am.N AV Proofs.Tryz IntKind
theorem Uv:bu 128 f128:=bz func128
theorem adu:bu 143 f143:=bz func143
theorem adk:bu 130 f130:=bz func130
theorem UK:bu 131 f131:=bz func131
theorem Vr:bu 71 f71:=bz func71
def LF:Spec:=b7 fun l=>match l with
 |[.rat q n,.rat r m,.bool s]=>some (aM (.rat (q+sQ s r.num.natAbs r.den) (n+m+1)) [n<2^42,m<2^42])
 |_=>none
def Ia:Spec:=b7 fun l=>match l with
 |[.rat q n,.rat r m]=>some (aM (.int .i64 (iw q r)) [n<2^42,m<2^42])
 |_=>none
abbrev Cx:FuncId×Spec:=(166,LI)
def GA:bB:=(164,LF)::(58,Ia)::Cx::(134,Og)::(132,BW)::(133,C4)::[]
theorem OR {q r:Rat} {n m:Nat}:cq T GA [] 60 f128 (aG f128) ⟨aV 0 [.rat q n,.rat r m],[],0⟩=
  let c1:Prop:=0<1;some (af.aj [c1,c1,c1,n<2^42,m<2^42,c1] (af.aj [c1] (af.leaf ak.ret [rat (q+sQ (decide (r<0)) r.num.natAbs r.den) (n+m+1)]))):=ag
theorem adj {q r:Rat} {n m:Nat}:cq T GA [] 60 f143 (aG f143) ⟨aV 0 [.rat q n,.rat r m],[],0⟩=
  let c1:Prop:=0<1;some (af.aj [c1,c1,c1,n<2^42,m<2^42,c1] (af.aj [c1] (af.leaf ak.ret [rat (q+sQ (!decide (r<0)) r.num.natAbs r.den) (n+m+1)]))):=ag
theorem WG {q r:Rat} {n m:Nat}:cq T GA [8] 60 f130 (aG f130) ⟨aV 0 [.rat q n,.rat r m],[],0⟩=
  let c1:Prop:=0<1;some (af.aj [c1,c1,m<2^42,n<2^42] (af.fork (decide (iw r q<0)) (af.aj [c1,c1] (af.aj [c1,m<2^44,c1] (af.aj [c1] (af.leaf ak.ret [rat r m])))) (af.aj [c1,n<2^44,c1] (af.aj [c1] (af.leaf ak.ret [rat q n]))))):=ag
theorem U7 {q r:Rat} {n m:Nat}:cq T GA [8] 60 f131 (aG f131) ⟨aV 0 [.rat q n,.rat r m],[],0⟩=
  let c1:Prop:=0<1;some (af.aj [c1,c1,m<2^42,n<2^42] (af.fork (decide (iw r q>0)) (af.aj [c1,c1] (af.aj [c1,m<2^44,c1] (af.aj [c1] (af.leaf ak.ret [rat r m])))) (af.aj [c1,n<2^44,c1] (af.aj [c1] (af.leaf ak.ret [rat q n]))))):=ag
theorem XI {n:Int}:cq T GA [] 60 f71 (aG f71) ⟨aV 0 [.int .i64 n],[],0⟩=
  let c1:Rat:=sQ (decide (n<0)) n.natAbs 1;some (af.aj [-(2:Int)^63<=n,n<2^63,nl n.natAbs<2^40,nl 1<2^40,(0:Nat)<1] (af.aj [(0:Nat)<1] (af.leaf ak.ret [rat c1 (dK c1)]))):=ag
theorem aaA {q r:Rat} {n m:Nat}:cq T GQ [20,23,34,47,49,56,63,76] 60 f58 (aG f58) ⟨aV 0 [.rat q n,.rat r m],[],0⟩=
  let c14:af (List AV):=af.leaf ak.ret [int .i64 (0:Int)];let c13:Nat:=q.num.natAbs;let c12:Nat:=r.num.natAbs;let c11:af (List AV):=af.leaf ak.ret [int .i64 (1:Int)];let c10:Bool:=decide (q<0);let c9:af (List AV):=af.leaf ak.ret [int .i64 (-1:Int)];let c8:Nat:=if r.den=1 then 0 else r.den;let c7:Nat:=if q.den=1 then 0 else q.den;let c6:Nat:=2^40;let c5:Prop:=0<1;let c15:Int:=dr (c13*r.den) (c12*q.den);let c4:Int:=u64.wrap ((↑(if fc q=true then c13 else 0):Int)*(↑(if fc r=true then r.den else 0):Int));let c3:Int:=u64.wrap ((↑(if fc r=true then c12 else 0):Int)*(↑(if fc q=true then q.den else 0):Int));let c2:af (List AV):=af.aj [c5,c5,nl c13<c6,nl r.den<c6,c5,c5,nl c12<c6,nl q.den<c6,nl (c13*r.den)<c6,nl (c12*q.den)<c6] (af.aj [c5] (af.fork c10 (af.leaf ak.ret [int .i64 (i64.wrap ((0:Int)-c15))]) (af.leaf ak.ret [int .i64 c15])));let c1:af (List AV):=af.fork (decide (c4<c3)) (af.aj [c5] (af.fork c10 c11 c9)) (af.fork (decide (c4>c3)) (af.aj [c5] (af.fork c10 c9 c11)) (af.aj [c5] (af.fork c10 c14 c14)));some (af.aj [c5,n<2^44,c5,m<2^44] (af.fork (bC q !=bC r) (af.fork (decide (bC q<bC r)) c9 c11) (af.aj [c5] (af.aj [c5,c5,nl c7<c6,nl c8<c6] (af.fork (decide (c7=c8)) (af.aj [c5,c5,nl c13<c6,nl c12<c6] (af.aj [c5] (af.fork c10 (af.leaf ak.ret [int .i64 (i64.wrap ((0:Int)-dr c13 c12))]) (af.leaf ak.ret [int .i64 (dr c13 c12)])))) (af.aj [c5] (af.fork (fc q) (af.aj [fc q=true] (af.fork (bif true then fc r else false) c1 c2)) (af.aj [fc q=false] (af.fork false c1 c2))))))))):=ag
theorem Rs:bA P LF 164:=by
 refine cP fun K args r hk hs _=>?_
 split at hs
 ·simp only[ax]at hs
  subst hs
  exact fun need=>R8 need.1 need.2 K [] trivial
 ·simp at hs
theorem Bn {q r:Rat} (h:bC q≠bC r):iw q r=if bC q<bC r then-1 else 1:=by
 unfold bC iw at*
 grind
theorem abn {a b:Nat}:-dr a b=dr b a:=by unfold dr;split<;>split<;>omega
theorem Hr {a b k:Nat} (hk:0<k):dr (a*k) (b*k)=dr a b:=by
 unfold dr
 simp only[Nat.mul_lt_mul_right hk]
theorem zw {a b:Nat}:i64.wrap (0-dr a b)=-dr a b:=by
 have:dr a b=-1\/dr a b=0\/dr a b=1:=by unfold dr;split;exact .inl rfl;split;exact .inr (.inr rfl);exact .inr (.inl rfl)
 rcases this with h|h|h<;>rw[h]<;>rfl
theorem oq {q r:Rat} (h:bC q=bC r):iw q r=if q<0 then-dr (q.num.natAbs*r.den) (r.num.natAbs*q.den)else dr (q.num.natAbs*r.den) (r.num.natAbs*q.den):=by
 have h1:q<0↔r<0:=by unfold bC at h;grind
 have e1:∀{a b:Nat},(-(a:Int))*(b:Int)=-((a*b:Nat):Int):=fun {a b}=>by simp[Int.neg_mul]
 have e2:∀{a b:Nat},(a:Int)*(b:Int)=((a*b:Nat):Int):=fun {a b}=>by simp
 unfold iw
 by_cases hq:q<0
 ·have hr:=h1.1 hq
  have q1:q.num=-(q.num.natAbs:Int):=by have:=jw.1 hq;omega
  have r1:r.num=-(r.num.natAbs:Int):=by have:=jw.1 hr;omega
  have l1:q<r↔r.num.natAbs*q.den<q.num.natAbs*r.den:=by
   rw[Rat.lt_iff]
   conv=>lhs;rw[q1,r1,e1,e1]
   omega
  have l2:r<q↔q.num.natAbs*r.den<r.num.natAbs*q.den:=by
   rw[Rat.lt_iff]
   conv=>lhs;rw[q1,r1,e1,e1]
   omega
  rw[if_pos hq,abn]
  unfold dr
  simp only[l1,l2]
 ·have hr:¬r<0:=fun h=>hq (h1.2 h)
  have q1:q.num=(q.num.natAbs:Int):=by have:¬q.num<0:=fun h=>hq (jw.2 h);omega
  have r1:r.num=(r.num.natAbs:Int):=by have:¬r.num<0:=fun h=>hr (jw.2 h);omega
  have l1:q<r↔q.num.natAbs*r.den<r.num.natAbs*q.den:=by
   rw[Rat.lt_iff]
   conv=>lhs;rw[q1,r1,e2,e2]
   omega
  have l2:r<q↔r.num.natAbs*q.den<q.num.natAbs*r.den:=by
   rw[Rat.lt_iff]
   conv=>lhs;rw[q1,r1,e2,e2]
   omega
  rw[if_neg hq]
  unfold dr
  simp only[l1,l2]
theorem Jt {q r:Rat} {n m:Nat} (hn:n<2^42) (hm':m<2^42) (K:Nat) (pre:aD):aQ P 58 K [.rat q n,.rat r m] pre (aM (.int .i64 (iw q r)) []):=by
 refine lM fun⟨hq,hr,_⟩=>?_
 have hq:Sz q n:=hq
 have hr:Sz r m:=hr
 obtain⟨a1,a2,a3⟩:=Sz.kY hq aa
 obtain⟨b1,b2,b3⟩:=Sz.kY hr aa
 have d1:=q.den_nz
 have d2:=r.den_nz
 have m1:nl (q.num.natAbs*r.den)<2^40:=kG (n:=n+m) (by rw[Nat.pow_add];exact Nat.mul_lt_mul'' hq.1 hr.2) aa
 have m2:nl (r.num.natAbs*q.den)<2^40:=kG (n:=m+n) (by rw[Nat.pow_add];exact Nat.mul_lt_mul'' hr.1 hq.2) aa
 refine cA hT lU hm TK rfl bp rfl 60 aaA (fun _=>?_) K pre
 simp only[af.all,aA,bne_iff_ne,ne_eq,bne_eq_false_iff_eq]
 refine⟨⟨aa,aa,aa,aa⟩,fun hs=>⟨fun hl=>bV ?_,fun hl=>bV ?_⟩,fun hs=>⟨aa,⟨aa,aa,a3,b3⟩,fun hd=>⟨⟨aa,aa,a1,b1⟩,aa,fun hc=>bV ?_,fun hc=>bV ?_⟩,fun hd=>⟨aa,fun hp=>⟨hp,fun hp2=>?_,fun hp2=>⟨⟨aa,aa,a1,b2,aa,aa,b1,a2,m1,m2⟩,aa,fun hc=>bV ?_,fun hc=>bV ?_⟩⟩,fun hp=>⟨hp,fun h=>by simp at h,fun _=>⟨⟨aa,aa,a1,b2,aa,aa,b1,a2,m1,m2⟩,aa,fun hc=>bV ?_,fun hc=>bV ?_⟩⟩⟩⟩⟩
 ·rw[Bn hs,if_pos (of_decide_eq_true hl)]
 ·rw[Bn hs,if_neg (of_decide_eq_false hl)]
 ·have hd:=of_decide_eq_true hd
  have e:q.den=r.den:=by split at hd<;>split at hd<;>omega
  rw[oq hs,if_pos (of_decide_eq_true hc),e,Hr aa,zw]
 ·have hd:=of_decide_eq_true hd
  have e:q.den=r.den:=by split at hd<;>split at hd<;>omega
  rw[oq hs,if_neg (of_decide_eq_false hc),e,Hr aa]
 ·have hp2:=jW hp2
  obtain⟨q1,q2⟩:=qw hp
  obtain⟨r1,r2⟩:=qw hp2
  rw[if_pos hp,if_pos hp2,if_pos hp2,if_pos hp,(og q1 r2).1,(og r1 q2).1]
  have hcs:=oq hs
  generalize q.num.natAbs*r.den=X at*
  generalize r.num.natAbs*q.den=Y at*
  unfold dr at hcs
  refine⟨fun h1=>⟨aa,fun hc=>bV ?_,fun hc=>bV ?_⟩,fun h1=>⟨fun h2=>⟨aa,fun hc=>bV ?_,fun hc=>bV ?_⟩,fun h2=>⟨aa,fun hc=>bV ?_,fun hc=>bV ?_⟩⟩⟩
  all_goals rw[hcs]
  ·rw[if_pos (of_decide_eq_true hc),if_pos (by have:=of_decide_eq_true h1;omega)];rfl
  ·rw[if_neg (of_decide_eq_false hc),if_pos (by have:=of_decide_eq_true h1;omega)]
  ·rw[if_pos (of_decide_eq_true hc),if_neg (by have:=of_decide_eq_false h1;omega),if_pos (by have:=of_decide_eq_true h2;omega)]
  ·rw[if_neg (of_decide_eq_false hc),if_neg (by have:=of_decide_eq_false h1;omega),if_pos (by have:=of_decide_eq_true h2;omega)]
  ·rw[if_pos (of_decide_eq_true hc),if_neg (by have:=of_decide_eq_false h1;omega),if_neg (by have:=of_decide_eq_false h2;omega)];rfl
  ·rw[if_neg (of_decide_eq_false hc),if_neg (by have:=of_decide_eq_false h1;omega),if_neg (by have:=of_decide_eq_false h2;omega)]
 ·rw[oq hs,if_pos (of_decide_eq_true hc),zw]
 ·rw[oq hs,if_neg (of_decide_eq_false hc)]
 ·rw[oq hs,if_pos (of_decide_eq_true hc),zw]
 ·rw[oq hs,if_neg (of_decide_eq_false hc)]
theorem acW:bA P Ia 58:=by
 refine cP fun K args r hk hs _=>?_
 split at hs
 ·simp only[ax]at hs
  subst hs
  exact fun need=>Jt need.1 need.2 K [] trivial
 ·simp at hs
theorem Xm:bA P Cx.2 Cx.1:=aa7
theorem xL:bT P GA:=aN Rs (aN acW (aN Xm (aN OZ (aN Mt (aN N4 ct)))))
section ops
variable {q r:Rat} {n m:Nat}
theorem Y5 (hn:n<2^42) (hm':m<2^42) (K:Nat):aQ P 128 K [.rat q n,.rat r m] [] (aM (.rat (q+r) (n+m+1)) []):=by
 refine cA hT xL hm Uv rfl bp rfl 60 OR (fun _=>?_) K []
 simp only[af.all,aA,lG]
 exact⟨⟨aa,aa,aa,hn,hm',aa⟩,aa,.refl _⟩
theorem Q1 (r:Rat):sQ (!decide (r<0)) r.num.natAbs r.den=-r:=by
 have h:=lG r
 conv=>rhs;rw[<-h]
 unfold sQ
 rw[Rat.neg_mkRat]
 congr 1
 unfold fK
 by_cases h:r<0<;>simp[h]
theorem Se (hn:n<2^42) (hm':m<2^42) (K:Nat):aQ P 143 K [.rat q n,.rat r m] [] (aM (.rat (q-r) (n+m+1)) []):=by
 refine cA hT xL hm adu rfl bp rfl 60 adj (fun _=>?_) K []
 simp only[af.all,aA,Q1]
 exact⟨⟨aa,aa,aa,hn,hm',aa⟩,aa,eO (by rw[Rat.sub_eq_add_neg])⟩
def iD (q r:Rat):Rat:=if r<q then r else q
def iF (q r:Rat):Rat:=if q<r then r else q
theorem Bk {q r:Rat}:iw q r<0↔q<r:=by unfold iw;grind
theorem HO {q r:Rat}:iw q r>0↔r<q:=by unfold iw;grind
theorem Rh (hn:n<2^42) (hm':m<2^42) (K:Nat):aQ P 130 K [.rat q n,.rat r m] [] (aM (.rat (iD q r) (max n m)) []):=by
 refine cA hT xL hm adk rfl bp rfl 60 WG (fun _=>?_) K []
 simp only[af.all,aA,bK,bO,Bk]
 refine⟨⟨aa,aa,hm',hn⟩,fun h=>⟨⟨aa,aa⟩,⟨aa,aa,aa⟩,aa,?_⟩,fun h=>⟨⟨aa,aa,aa⟩,aa,?_⟩⟩
 ·unfold iD;rw[if_pos h];exact nu (Nat.le_max_right _ _)
 ·unfold iD;rw[if_neg h];exact nu (Nat.le_max_left _ _)
theorem Y4 (hn:n<2^42) (hm':m<2^42) (K:Nat):aQ P 131 K [.rat q n,.rat r m] [] (aM (.rat (iF q r) (max n m)) []):=by
 refine cA hT xL hm UK rfl bp rfl 60 U7 (fun _=>?_) K []
 simp only[af.all,aA,bK,bO,HO]
 refine⟨⟨aa,aa,hm',hn⟩,fun h=>⟨⟨aa,aa⟩,⟨aa,aa,aa⟩,aa,?_⟩,fun h=>⟨⟨aa,aa,aa⟩,aa,?_⟩⟩
 ·unfold iF;rw[if_pos h];exact nu (Nat.le_max_right _ _)
 ·unfold iF;rw[if_neg h];exact nu (Nat.le_max_left _ _)
theorem adY {n:Int}:sQ (decide (n<0)) n.natAbs 1=(n:Rat):=by
 unfold sQ
 have:fK (decide (n<0)) n.natAbs=n:=by unfold fK;by_cases h:n<0<;>simp[h]<;>omega
 rw[this,Rat.mkRat_one]
theorem Dx {n:Int}:Sz (n:Rat) (max 1 (bP n.natAbs)):=by
 refine⟨?_,?_⟩
 ·rw[Rat.num_intCast]
  exact Nat.lt_of_lt_of_le (j5.1 aS) (Nat.pow_le_pow_right aa (Nat.le_max_right _ _))
 ·rw[Rat.den_intCast]
  exact Nat.lt_of_lt_of_le (show 1<2^1 by omega) (Nat.pow_le_pow_right aa (Nat.le_max_left _ _))
theorem Pb {n:Int} (h1:-2^63<=n) (h2:n<2^63) (K:Nat):aQ P 71 K [.int .i64 n] [] (aM (.rat (n:Rat) (max 1 (bP n.natAbs))) []):=by
 refine cA hT xL hm Vr rfl bp rfl 60 XI (fun _=>?_) K []
 simp only[af.all,aA,adY]
 exact⟨⟨h1,h2,kG (n:=64) aa aa,by decide,aa⟩,aa,fj rfl Dx⟩
theorem Ip (hn:n<2^42) (hm':m<2^42) (K:Nat):aQ P 129 K [.rat q n,.rat r m] [] (aM (.rat (q*r) (n+m)) []):=by
 refine lM fun⟨hq,hr,_⟩=>?_
 have hq:Sz q n:=hq
 have hr:Sz r m:=hr
 obtain⟨a1,a2,a3⟩:=Sz.kY hq aa
 obtain⟨b1,b2,b3⟩:=Sz.kY hr aa
 have d1:=q.den_nz
 have d2:=r.den_nz
 have m1:nl (q.num.natAbs*r.num.natAbs)<2^40:=kG (n:=n+m) (by rw[Nat.pow_add];exact Nat.mul_lt_mul'' hq.1 hr.1) aa
 have m2:nl (q.den*r.den)<2^40:=kG (n:=n+m) (by rw[Nat.pow_add];exact Nat.mul_lt_mul'' hq.2 hr.2) aa
 have hz:=hq.mul hr
 have hv:sQ (decide (q<0)!=decide (r<0)) (q.num.natAbs*r.num.natAbs) (q.den*r.den)=q*r:=by rw[<-C9,lG,lG]
 have hzero:q=0\/r=0->bG (.agg [.bool false,.mag 0,.mag 0]) (.rat (q*r) (n+m)):=by
  intro h
  have e:q*r=0:=by rcases h with h|h<;>subst h<;>simp
  obtain⟨k,hk⟩:∃k,n+m=k+1:=⟨n+m-1,by have:=hq.pos;omega⟩
  rw[e,hk];exact oH
 refine cA hT lU hm aba rfl bp rfl 60 WW (fun _=>?_) K []
 have hlong:(af.aj
         [(0:Nat)<1,(0:Nat)<1,(0:Nat)<1,(0:Nat)<1,nl q.num.natAbs<2^40,nl r.num.natAbs<2^40,(0:Nat)<1,(0:Nat)<1,nl q.den<2^40,nl r.den<2^40,nl (q.num.natAbs*r.num.natAbs)<2^40,nl (q.den*r.den)<2^40,(0:Nat)<1]
         (af.aj [(0:Nat)<1]
          (af.leaf ak.ret
           [AV.rat (sQ (decide (q<0)!=decide (r<0)) (q.num.natAbs*r.num.natAbs) (q.den*r.den))
             (dK (sQ (decide (q<0)!=decide (r<0)) (q.num.natAbs*r.num.natAbs) (q.den*r.den)))]))).all fun _ us=>gG us (.rat (q*r) (n+m)):=by
  simp only[af.all,aA]
  exact⟨⟨aa,aa,aa,aa,a1,b1,aa,aa,a2,b2,m1,m2,aa⟩,aa,fj hv hz⟩
 refine⟨fun hb=>⟨⟨show 0<1 by omega,hb⟩,fun _=>⟨show 0<1 by omega,show 0<1 by omega,hzero (.inl ?_)⟩,fun h=>by simp at h⟩,fun hb=>⟨⟨show 0<1 by omega,hb,show 0<1 by omega⟩,fun hc=>⟨show 0<1 by omega,show 0<1 by omega,hzero (.inr ?_)⟩,fun hc=>⟨show 0<1 by omega,fun h1=>⟨show 0<1 by omega,fun h2=>?_,fun h2=>hlong⟩,fun h1=>hlong⟩⟩⟩
 ·have:=eq_of_beq hb
  exact oU.1 (kO.1 aa)
 ·have:=eq_of_beq (jg hc)
  exact oU.1 (kO.1 aa)
 ·obtain⟨q1,q2⟩:=qw h1
  obtain⟨r1,r2⟩:=qw h2
  obtain⟨wx,bx⟩:=og q1 r1
  obtain⟨wd,bd⟩:=og q2 r2
  have hd0:q.den*r.den≠0:=Nat.mul_ne_zero d1 d2
  rw[if_pos h1,if_pos h2,if_pos h1,if_pos h2,wx,wd]
  simp only[af.all,aA,bE]
  exact⟨⟨aa,aa,aa,aa,aa⟩,aa,fj hv hz⟩
theorem Fq (q r:Rat) (hr:r≠0):sQ (decide (q<0)!=decide (r<0)) (q.num.natAbs*r.den) (q.den*r.num.natAbs)=q/r:=by
 have hn:r.num≠0:=fun h=>hr (Rat.num_eq_zero.1 h)
 have hi:r⁻¹=sQ (decide (r<0)) r.den r.num.natAbs:=by
  rw[<-lG r⁻¹]
  have e1:r⁻¹.num.natAbs=r.den:=by rw[Rat.num_inv,Int.natAbs_mul,Int.natAbs_natCast,Int.natAbs_sign_of_ne_zero hn,Nat.one_mul]
  have e2:r⁻¹.den=r.num.natAbs:=by rw[Rat.den_inv,if_neg hn]
  have e3:decide (r⁻¹<0)=decide (r<0):=by
   rw[decide_eq_decide,jw,jw,Rat.num_inv]
   have hd:=r.den_nz
   have hd':(0:Int)<(r.den:Int):=aa
   rcases Int.lt_trichotomy r.num 0 with h|h|h
   ·rw[Int.sign_eq_neg_one_of_neg h];omega
   ·exact absurd h hn
   ·rw[Int.sign_eq_one_of_pos h];omega
  rw[e1,e2,e3]
 rw[Rat.div_def,hi]
 conv=>rhs;rw[<-lG q]
 rw[C9]
theorem FJ (hn:n<2^42) (hm':m<2^42) (K:Nat):aQ P 142 K [.rat q n,.rat r m] [] (aM (.tuple [.rat (q/r) (n+m),.int .i64 (if r=0 then 3 else 0)]) []):=by
 refine lM fun⟨hq,hr,_⟩=>?_
 have hq:Sz q n:=hq
 have hr:Sz r m:=hr
 obtain⟨a1,a2,a3⟩:=Sz.kY hq aa
 obtain⟨b1,b2,b3⟩:=Sz.kY hr aa
 have d1:=q.den_nz
 have d2:=r.den_nz
 have m1:nl (q.num.natAbs*r.den)<2^40:=kG (n:=n+m) (by rw[Nat.pow_add];exact Nat.mul_lt_mul'' hq.1 hr.2) aa
 have m2:nl (q.den*r.num.natAbs)<2^40:=kG (n:=n+m) (by rw[Nat.pow_add];exact Nat.mul_lt_mul'' hq.2 hr.1) aa
 have hz:=hq.div hr
 have sg:∀{x:Rat},bC x=0↔x=0:=by intro x;unfold bC;grind
 refine cA hT lU hm Uc rfl bp rfl 60 O5 (fun _=>?_) K []
 refine⟨⟨show 0<1 by omega,show m<2^44 by omega⟩,fun hb=>⟨show 0<1 by omega,show 0<1 by omega,?_,?_,trivial⟩,fun hb=>⟨show 0<1 by omega,?_⟩⟩
 ·have h0:r=0:=sg.1 (eq_of_beq hb)
  have e:q/r=0:=by rw[h0,Rat.div_def,Rat.inv_zero,Rat.mul_zero]
  obtain⟨k,hk⟩:∃k,n+m=k+1:=⟨n+m-1,by have:=hq.pos;omega⟩
  rw[e,hk];exact oH
 ·have h0:r=0:=sg.1 (eq_of_beq hb)
  exact bV (by rw[if_pos h0])
 have h0:r≠0:=fun h=>by
  rw[h]at hb
  simp[bC]at hb
 have hv:=Fq q r h0
 have he:bG (.int .i64 0) (.int .i64 (if r=0 then 3 else 0)):=bV (by rw[if_neg h0])
 have hlong:(af.aj
         [(0:Nat)<1,(0:Nat)<1,(0:Nat)<1,(0:Nat)<1,nl q.num.natAbs<2^40,nl r.den<2^40,(0:Nat)<1,(0:Nat)<1,nl q.den<2^40,nl r.num.natAbs<2^40,nl (q.num.natAbs*r.den)<2^40,nl (q.den*r.num.natAbs)<2^40,(0:Nat)<1]
         (af.aj [(0:Nat)<1]
          (af.leaf ak.ret
           [AV.rat (sQ (decide (q<0)!=decide (r<0)) (q.num.natAbs*r.den) (q.den*r.num.natAbs))
             (dK (sQ (decide (q<0)!=decide (r<0)) (q.num.natAbs*r.den) (q.den*r.num.natAbs))),.int .i64 0]))).all fun _ us=>gG us (.tuple [.rat (q/r) (n+m),.int .i64 (if r=0 then 3 else 0)]):=by
  simp only[af.all,aA]
  exact⟨⟨aa,aa,aa,aa,a1,b2,aa,aa,a2,b1,m1,m2,aa⟩,aa,fj hv hz,he,trivial⟩
 refine⟨fun h1=>⟨show 0<1 by omega,fun h2=>?_,fun h2=>hlong⟩,fun h1=>hlong⟩
 obtain⟨q1,q2⟩:=qw h1
 obtain⟨r1,r2⟩:=qw h2
 obtain⟨wx,bx⟩:=og q1 r2
 obtain⟨wd,bd⟩:=og q2 r1
 have hr0:r.num.natAbs≠0:=fun h=>h0 (oU.1 h)
 have hd0:q.den*r.num.natAbs≠0:=Nat.mul_ne_zero d1 hr0
 rw[if_pos h1,if_pos h2,if_pos h1,if_pos h2,wx,wd]
 simp only[af.all,aA,bE]
 exact⟨⟨aa,aa,aa,aa,aa⟩,aa,fj hv hz,he,trivial⟩
end ops
def MF:Spec:=b7 fun l=>match l with
 |[.int .i64 n]=>some (aM (.rat (n:Rat) (max 1 (bP n.natAbs))) [-2^63<=n,n<2^63])
 |_=>none
theorem SX:bA P MF 71:=by
 refine cP fun K args r hk hs _=>?_
 split at hs
 ·simp only[ax]at hs
  subst hs
  exact fun need=>Pb need.1 need.2 K trivial
 ·simp at hs
end Go.Am.B
