/- rational.Add, Sub, Mul, Quo, Cmp, Min, Max, Int. -/
import Derived.Test.YtolopdkjjlfgjaaGreatB20
set_option linter.unusedVariables false
namespace Go.Am.B
open Go Go.Am.N AV Proofs.Tryz IntKind
theorem WT:bf 128 f128:=bg func128
theorem ahj:bf 143 f143:=bg func143
theorem Z9:bf 130 f130:=bg func130
theorem Wc:bf 131 f131:=bg func131
theorem agp:bf 71 f71:=bg func71
def N3:Spec:=cu fun l=>match l with
 |[.rat q n,.rat r m,.bool s]=>some (aL (.rat (q+sQ s r.num.natAbs r.den) (n+m+1)) [n<2^42,m<2^42])
 |_=>none
def P4:Spec:=cu fun l=>match l with
 |[.rat q n,.rat r m]=>some (aL (.int .i64 (fV q r)) [n<2^42,m<2^42])
 |_=>none
abbrev EP:FuncId×Spec:=(166,KU)
def GA:bk:=(164,N3)::(58,P4)::EP::(134,JK)::(132,HT)::(133,HI)::[]
theorem Xg {q r:Rat} {n m:Nat}:b9 T GA [] 60 f128 (aH f128) ⟨aU 0 [.rat q n,.rat r m],[],0⟩=
  let c1:Prop:=0<1;some (ag.aj [c1,c1,c1,n<2^42,m<2^42,c1] (ag.aj [c1] (ag.leaf aq.ret [rat (q+sQ (decide (r<0)) r.num.natAbs r.den) (n+m+1)]))):=ah
theorem ai4 {q r:Rat} {n m:Nat}:b9 T GA [] 60 f143 (aH f143) ⟨aU 0 [.rat q n,.rat r m],[],0⟩=
  let c1:Prop:=0<1;some (ag.aj [c1,c1,c1,n<2^42,m<2^42,c1] (ag.aj [c1] (ag.leaf aq.ret [rat (q+sQ (!decide (r<0)) r.num.natAbs r.den) (n+m+1)]))):=ah
theorem aj3 {q r:Rat} {n m:Nat}:b9 T GA [8] 60 f130 (aH f130) ⟨aU 0 [.rat q n,.rat r m],[],0⟩=
  let c1:Prop:=0<1;some (ag.aj [c1,c1,m<2^42,n<2^42] (ag.fork (decide (fV r q<0)) (ag.aj [c1,c1] (ag.aj [c1,m<2^44,c1] (ag.aj [c1] (ag.leaf aq.ret [rat r m])))) (ag.aj [c1,n<2^44,c1] (ag.aj [c1] (ag.leaf aq.ret [rat q n]))))):=ah
theorem acH {q r:Rat} {n m:Nat}:b9 T GA [8] 60 f131 (aH f131) ⟨aU 0 [.rat q n,.rat r m],[],0⟩=
  let c1:Prop:=0<1;some (ag.aj [c1,c1,m<2^42,n<2^42] (ag.fork (decide (fV r q>0)) (ag.aj [c1,c1] (ag.aj [c1,m<2^44,c1] (ag.aj [c1] (ag.leaf aq.ret [rat r m])))) (ag.aj [c1,n<2^44,c1] (ag.aj [c1] (ag.leaf aq.ret [rat q n]))))):=ah
theorem ai3 {n:Int}:b9 T GA [] 60 f71 (aH f71) ⟨aU 0 [.int .i64 n],[],0⟩=
  let c1:Rat:=sQ (decide (n<0)) n.natAbs 1;some (ag.aj [-(2:Int)^63<=n,n<2^63,nl n.natAbs<2^40,nl 1<2^40,(0:Nat)<1] (ag.aj [(0:Nat)<1] (ag.leaf aq.ret [rat c1 (ef c1)]))):=ah
theorem VR {q r:Rat} {n m:Nat}:b9 T GQ [20,23,34,47,49,56,63,76] 60 f58 (aH f58) ⟨aU 0 [.rat q n,.rat r m],[],0⟩=
  let c14:ag (List AV):=ag.leaf aq.ret [int .i64 (0:Int)];let c13:Nat:=q.num.natAbs;let c12:Nat:=r.num.natAbs;let c11:ag (List AV):=ag.leaf aq.ret [int .i64 (1:Int)];let c10:Bool:=decide (q<0);let c9:ag (List AV):=ag.leaf aq.ret [int .i64 (-1:Int)];let c8:Nat:=if r.den=1 then 0 else r.den;let c7:Nat:=if q.den=1 then 0 else q.den;let c6:Nat:=2^40;let c5:Prop:=0<1;let c15:Int:=dO (c13*r.den) (c12*q.den);let c4:Int:=u64.wrap ((↑(if fE q=true then c13 else 0):Int)*(↑(if fE r=true then r.den else 0):Int));let c3:Int:=u64.wrap ((↑(if fE r=true then c12 else 0):Int)*(↑(if fE q=true then q.den else 0):Int));let c2:ag (List AV):=ag.aj [c5,c5,nl c13<c6,nl r.den<c6,c5,c5,nl c12<c6,nl q.den<c6,nl (c13*r.den)<c6,nl (c12*q.den)<c6] (ag.aj [c5] (ag.fork c10 (ag.leaf aq.ret [int .i64 (i64.wrap ((0:Int)-c15))]) (ag.leaf aq.ret [int .i64 c15])));let c1:ag (List AV):=ag.fork (decide (c4<c3)) (ag.aj [c5] (ag.fork c10 c11 c9)) (ag.fork (decide (c4>c3)) (ag.aj [c5] (ag.fork c10 c9 c11)) (ag.aj [c5] (ag.fork c10 c14 c14)));some (ag.aj [c5,n<2^44,c5,m<2^44] (ag.fork (bL q !=bL r) (ag.fork (decide (bL q<bL r)) c9 c11) (ag.aj [c5] (ag.aj [c5,c5,nl c7<c6,nl c8<c6] (ag.fork (decide (c7=c8)) (ag.aj [c5,c5,nl c13<c6,nl c12<c6] (ag.aj [c5] (ag.fork c10 (ag.leaf aq.ret [int .i64 (i64.wrap ((0:Int)-dO c13 c12))]) (ag.leaf aq.ret [int .i64 (dO c13 c12)])))) (ag.aj [c5] (ag.fork (fE q) (ag.aj [fE q=true] (ag.fork (bif true then fE r else false) c1 c2)) (ag.aj [fE q=false] (ag.fork false c1 c2))))))))):=ah
theorem afK:aY P N3 164:=by
 refine cW fun K args r hk hs _=>?_
 split at hs
 ·simp only[ay]at hs
  subst hs
  exact fun need=>aeK need.1 need.2 K [] trivial
 ·simp at hs
theorem Br {q r:Rat} (h:bL q≠bL r):fV q r=if bL q<bL r then-1 else 1:=by
 unfold bL fV at*
 grind
theorem Th {a b:Nat}:-dO a b=dO b a:=by unfold dO;split<;>split<;>omega
theorem PL {a b k:Nat} (hk:0<k):dO (a*k) (b*k)=dO a b:=by
 unfold dO
 simp only[Nat.mul_lt_mul_right hk]
theorem CK {a b:Nat}:i64.wrap (0-dO a b)=-dO a b:=by
 have:dO a b=-1\/dO a b=0\/dO a b=1:=by unfold dO;split;exact .inl rfl;split;exact .inr (.inr rfl);exact .inr (.inl rfl)
 rcases this with h|h|h<;>rw[h]<;>rfl
theorem qm {q r:Rat} (h:bL q=bL r):fV q r=if q<0 then-dO (q.num.natAbs*r.den) (r.num.natAbs*q.den)else dO (q.num.natAbs*r.den) (r.num.natAbs*q.den):=by
 have h1:q<0↔r<0:=by unfold bL at h;grind
 have e1:∀{a b:Nat},(-(a:Int))*(b:Int)=-((a*b:Nat):Int):=fun {a b}=>by simp[Int.neg_mul]
 have e2:∀{a b:Nat},(a:Int)*(b:Int)=((a*b:Nat):Int):=fun {a b}=>by simp
 unfold fV
 by_cases hq:q<0
 ·have hr:=h1.1 hq
  have q1:q.num=-(q.num.natAbs:Int):=by have:=jK.1 hq;omega
  have r1:r.num=-(r.num.natAbs:Int):=by have:=jK.1 hr;omega
  have l1:q<r↔r.num.natAbs*q.den<q.num.natAbs*r.den:=by
   rw[Rat.lt_iff]
   conv=>lhs;rw[q1,r1,e1,e1]
   omega
  have l2:r<q↔q.num.natAbs*r.den<r.num.natAbs*q.den:=by
   rw[Rat.lt_iff]
   conv=>lhs;rw[q1,r1,e1,e1]
   omega
  rw[if_pos hq,Th]
  unfold dO
  simp only[l1,l2]
 ·have hr:¬r<0:=fun h=>hq (h1.2 h)
  have q1:q.num=(q.num.natAbs:Int):=by have:¬q.num<0:=fun h=>hq (jK.2 h);omega
  have r1:r.num=(r.num.natAbs:Int):=by have:¬r.num<0:=fun h=>hr (jK.2 h);omega
  have l1:q<r↔q.num.natAbs*r.den<r.num.natAbs*q.den:=by
   rw[Rat.lt_iff]
   conv=>lhs;rw[q1,r1,e2,e2]
   omega
  have l2:r<q↔r.num.natAbs*q.den<q.num.natAbs*r.den:=by
   rw[Rat.lt_iff]
   conv=>lhs;rw[q1,r1,e2,e2]
   omega
  rw[if_neg hq]
  unfold dO
  simp only[l1,l2]
theorem K5 {q r:Rat} {n m:Nat} (hn:n<2^42) (hm':m<2^42) (K:Nat) (pre:aE):aQ P 58 K [.rat q n,.rat r m] pre (aL (.int .i64 (fV q r)) []):=by
 refine kS fun⟨hq,hr,_⟩=>?_
 have hq:Sz q n:=hq
 have hr:Sz r m:=hr
 obtain⟨a1,a2,a3⟩:=Sz.kU hq aa
 obtain⟨b1,b2,b3⟩:=Sz.kU hr aa
 have d1:=q.den_nz
 have d2:=r.den_nz
 have m1:nl (q.num.natAbs*r.den)<2^40:=lK (n:=n+m) (by rw[Nat.pow_add];exact Nat.mul_lt_mul'' hq.1 hr.2) aa
 have m2:nl (r.num.natAbs*q.den)<2^40:=lK (n:=m+n) (by rw[Nat.pow_add];exact Nat.mul_lt_mul'' hr.1 hq.2) aa
 refine ck hT mL hm XG rfl aX rfl 60 VR (fun _=>?_) K pre
 simp only[ag.all,az,bne_iff_ne,ne_eq,bne_eq_false_iff_eq]
 refine⟨⟨aa,aa,aa,aa⟩,fun hs=>⟨fun hl=>cw ?_,fun hl=>cw ?_⟩,fun hs=>⟨aa,⟨aa,aa,a3,b3⟩,fun hd=>⟨⟨aa,aa,a1,b1⟩,aa,fun hc=>cw ?_,fun hc=>cw ?_⟩,fun hd=>⟨aa,fun hp=>⟨hp,fun hp2=>?_,fun hp2=>⟨⟨aa,aa,a1,b2,aa,aa,b1,a2,m1,m2⟩,aa,fun hc=>cw ?_,fun hc=>cw ?_⟩⟩,fun hp=>⟨hp,fun h=>by simp at h,fun _=>⟨⟨aa,aa,a1,b2,aa,aa,b1,a2,m1,m2⟩,aa,fun hc=>cw ?_,fun hc=>cw ?_⟩⟩⟩⟩⟩
 ·rw[Br hs,if_pos (of_decide_eq_true hl)]
 ·rw[Br hs,if_neg (of_decide_eq_false hl)]
 ·have hd:=of_decide_eq_true hd
  have e:q.den=r.den:=by split at hd<;>split at hd<;>omega
  rw[qm hs,if_pos (of_decide_eq_true hc),e,PL aa,CK]
 ·have hd:=of_decide_eq_true hd
  have e:q.den=r.den:=by split at hd<;>split at hd<;>omega
  rw[qm hs,if_neg (of_decide_eq_false hc),e,PL aa]
 ·have hp2:=kE hp2
  obtain⟨q1,q2⟩:=rz hp
  obtain⟨r1,r2⟩:=rz hp2
  rw[if_pos hp,if_pos hp2,if_pos hp2,if_pos hp,(qb q1 r2).1,(qb r1 q2).1]
  have hcs:=qm hs
  generalize q.num.natAbs*r.den=X at*
  generalize r.num.natAbs*q.den=Y at*
  unfold dO at hcs
  refine⟨fun h1=>⟨aa,fun hc=>cw ?_,fun hc=>cw ?_⟩,fun h1=>⟨fun h2=>⟨aa,fun hc=>cw ?_,fun hc=>cw ?_⟩,fun h2=>⟨aa,fun hc=>cw ?_,fun hc=>cw ?_⟩⟩⟩
  all_goals rw[hcs]
  ·rw[if_pos (of_decide_eq_true hc),if_pos (by have:=of_decide_eq_true h1;omega)];rfl
  ·rw[if_neg (of_decide_eq_false hc),if_pos (by have:=of_decide_eq_true h1;omega)]
  ·rw[if_pos (of_decide_eq_true hc),if_neg (by have:=of_decide_eq_false h1;omega),if_pos (by have:=of_decide_eq_true h2;omega)]
  ·rw[if_neg (of_decide_eq_false hc),if_neg (by have:=of_decide_eq_false h1;omega),if_pos (by have:=of_decide_eq_true h2;omega)]
  ·rw[if_pos (of_decide_eq_true hc),if_neg (by have:=of_decide_eq_false h1;omega),if_neg (by have:=of_decide_eq_false h2;omega)];rfl
  ·rw[if_neg (of_decide_eq_false hc),if_neg (by have:=of_decide_eq_false h1;omega),if_neg (by have:=of_decide_eq_false h2;omega)]
 ·rw[qm hs,if_pos (of_decide_eq_true hc),CK]
 ·rw[qm hs,if_neg (of_decide_eq_false hc)]
 ·rw[qm hs,if_pos (of_decide_eq_true hc),CK]
 ·rw[qm hs,if_neg (of_decide_eq_false hc)]
theorem abd:aY P P4 58:=by
 refine cW fun K args r hk hs _=>?_
 split at hs
 ·simp only[ay]at hs
  subst hs
  exact fun need=>K5 need.1 need.2 K [] trivial
 ·simp at hs
theorem ZB:aY P EP.2 EP.1:=ajO
theorem yL:bR P GA:=aJ afK (aJ abd (aJ ZB (aJ ag3 (aJ OS (aJ NH cz)))))
section ops
variable {q r:Rat} {n m:Nat}
theorem aiS (hn:n<2^42) (hm':m<2^42) (K:Nat):aQ P 128 K [.rat q n,.rat r m] [] (aL (.rat (q+r) (n+m+1)) []):=by
 refine ck hT yL hm WT rfl aX rfl 60 Xg (fun _=>?_) K []
 simp only[ag.all,az,mC]
 exact⟨⟨aa,aa,aa,hn,hm',aa⟩,aa,.refl _⟩
theorem Yo (r:Rat):sQ (!decide (r<0)) r.num.natAbs r.den=-r:=by
 have h:=mC r
 conv=>rhs;rw[<-h]
 unfold sQ
 rw[Rat.neg_mkRat]
 congr 1
 unfold fZ
 by_cases h:r<0<;>simp[h]
theorem T8 (hn:n<2^42) (hm':m<2^42) (K:Nat):aQ P 143 K [.rat q n,.rat r m] [] (aL (.rat (q-r) (n+m+1)) []):=by
 refine ck hT yL hm ahj rfl aX rfl 60 ai4 (fun _=>?_) K []
 simp only[ag.all,az,Yo]
 exact⟨⟨aa,aa,aa,hn,hm',aa⟩,aa,fk (by rw[Rat.sub_eq_add_neg])⟩
def eJ (q r:Rat):Rat:=if r<q then r else q
def eI (q r:Rat):Rat:=if q<r then r else q
theorem Dn {q r:Rat}:fV q r<0↔q<r:=by unfold fV;grind
theorem OR {q r:Rat}:fV q r>0↔r<q:=by unfold fV;grind
theorem XE (hn:n<2^42) (hm':m<2^42) (K:Nat):aQ P 130 K [.rat q n,.rat r m] [] (aL (.rat (eJ q r) (max n m)) []):=by
 refine ck hT yL hm Z9 rfl aX rfl 60 aj3 (fun _=>?_) K []
 simp only[ag.all,az,bB,bD,Dn]
 refine⟨⟨aa,aa,hm',hn⟩,fun h=>⟨⟨aa,aa⟩,⟨aa,aa,aa⟩,aa,?_⟩,fun h=>⟨⟨aa,aa,aa⟩,aa,?_⟩⟩
 ·unfold eJ;rw[if_pos h];exact lW (Nat.le_max_right _ _)
 ·unfold eJ;rw[if_neg h];exact lW (Nat.le_max_left _ _)
theorem ajY (hn:n<2^42) (hm':m<2^42) (K:Nat):aQ P 131 K [.rat q n,.rat r m] [] (aL (.rat (eI q r) (max n m)) []):=by
 refine ck hT yL hm Wc rfl aX rfl 60 acH (fun _=>?_) K []
 simp only[ag.all,az,bB,bD,OR]
 refine⟨⟨aa,aa,hm',hn⟩,fun h=>⟨⟨aa,aa⟩,⟨aa,aa,aa⟩,aa,?_⟩,fun h=>⟨⟨aa,aa,aa⟩,aa,?_⟩⟩
 ·unfold eI;rw[if_pos h];exact lW (Nat.le_max_right _ _)
 ·unfold eI;rw[if_neg h];exact lW (Nat.le_max_left _ _)
theorem Su {n:Int}:sQ (decide (n<0)) n.natAbs 1=(n:Rat):=by
 unfold sQ
 have:fZ (decide (n<0)) n.natAbs=n:=by unfold fZ;by_cases h:n<0<;>simp[h]<;>omega
 rw[this,Rat.mkRat_one]
theorem Is {n:Int}:Sz (n:Rat) (max 1 (bV n.natAbs)):=by
 refine⟨?_,?_⟩
 ·rw[Rat.num_intCast]
  exact Nat.lt_of_lt_of_le (jZ.1 aT) (Nat.pow_le_pow_right aa (Nat.le_max_right _ _))
 ·rw[Rat.den_intCast]
  exact Nat.lt_of_lt_of_le (show 1<2^1 by omega) (Nat.pow_le_pow_right aa (Nat.le_max_left _ _))
theorem S9 {n:Int} (h1:-2^63<=n) (h2:n<2^63) (K:Nat):aQ P 71 K [.int .i64 n] [] (aL (.rat (n:Rat) (max 1 (bV n.natAbs))) []):=by
 refine ck hT yL hm agp rfl aX rfl 60 ai3 (fun _=>?_) K []
 simp only[ag.all,az,Su]
 exact⟨⟨h1,h2,lK (n:=64) aa aa,by decide,aa⟩,aa,ej rfl Is⟩
theorem Jt (hn:n<2^42) (hm':m<2^42) (K:Nat):aQ P 129 K [.rat q n,.rat r m] [] (aL (.rat (q*r) (n+m)) []):=by
 refine kS fun⟨hq,hr,_⟩=>?_
 have hq:Sz q n:=hq
 have hr:Sz r m:=hr
 obtain⟨a1,a2,a3⟩:=Sz.kU hq aa
 obtain⟨b1,b2,b3⟩:=Sz.kU hr aa
 have d1:=q.den_nz
 have d2:=r.den_nz
 have m1:nl (q.num.natAbs*r.num.natAbs)<2^40:=lK (n:=n+m) (by rw[Nat.pow_add];exact Nat.mul_lt_mul'' hq.1 hr.1) aa
 have m2:nl (q.den*r.den)<2^40:=lK (n:=n+m) (by rw[Nat.pow_add];exact Nat.mul_lt_mul'' hq.2 hr.2) aa
 have hz:=hq.mul hr
 have hv:sQ (decide (q<0)!=decide (r<0)) (q.num.natAbs*r.num.natAbs) (q.den*r.den)=q*r:=by rw[<-G9,mC,mC]
 have hzero:q=0\/r=0->aW (.agg [.bool false,.mag 0,.mag 0]) (.rat (q*r) (n+m)):=by
  intro h
  have e:q*r=0:=by rcases h with h|h<;>subst h<;>simp
  obtain⟨k,hk⟩:∃k,n+m=k+1:=⟨n+m-1,by have:=hq.pos;omega⟩
  rw[e,hk];exact pO
 refine ck hT mL hm TN rfl aX rfl 60 abg (fun _=>?_) K []
 have hlong:(ag.aj
         [(0:Nat)<1,(0:Nat)<1,(0:Nat)<1,(0:Nat)<1,nl q.num.natAbs<2^40,nl r.num.natAbs<2^40,(0:Nat)<1,(0:Nat)<1,nl q.den<2^40,nl r.den<2^40,nl (q.num.natAbs*r.num.natAbs)<2^40,nl (q.den*r.den)<2^40,(0:Nat)<1]
         (ag.aj [(0:Nat)<1]
          (ag.leaf aq.ret
           [AV.rat (sQ (decide (q<0)!=decide (r<0)) (q.num.natAbs*r.num.natAbs) (q.den*r.den))
             (ef (sQ (decide (q<0)!=decide (r<0)) (q.num.natAbs*r.num.natAbs) (q.den*r.den)))]))).all fun _ us=>gx us (.rat (q*r) (n+m)):=by
  simp only[ag.all,az]
  exact⟨⟨aa,aa,aa,aa,a1,b1,aa,aa,a2,b2,m1,m2,aa⟩,aa,ej hv hz⟩
 refine⟨fun hb=>⟨⟨show 0<1 by omega,hb⟩,fun _=>⟨show 0<1 by omega,show 0<1 by omega,hzero (.inl ?_)⟩,fun h=>by simp at h⟩,fun hb=>⟨⟨show 0<1 by omega,hb,show 0<1 by omega⟩,fun hc=>⟨show 0<1 by omega,show 0<1 by omega,hzero (.inr ?_)⟩,fun hc=>⟨show 0<1 by omega,fun h1=>⟨show 0<1 by omega,fun h2=>?_,fun h2=>hlong⟩,fun h1=>hlong⟩⟩⟩
 ·have:=eq_of_beq hb
  exact oE.1 (jY.1 aa)
 ·have:=eq_of_beq (jt hc)
  exact oE.1 (jY.1 aa)
 ·obtain⟨q1,q2⟩:=rz h1
  obtain⟨r1,r2⟩:=rz h2
  obtain⟨wx,bx⟩:=qb q1 r1
  obtain⟨wd,bd⟩:=qb q2 r2
  have hd0:q.den*r.den≠0:=Nat.mul_ne_zero d1 d2
  rw[if_pos h1,if_pos h2,if_pos h1,if_pos h2,wx,wd]
  simp only[ag.all,az,bJ]
  exact⟨⟨aa,aa,aa,aa,aa⟩,aa,ej hv hz⟩
theorem Em (q r:Rat) (hr:r≠0):sQ (decide (q<0)!=decide (r<0)) (q.num.natAbs*r.den) (q.den*r.num.natAbs)=q/r:=by
 have hn:r.num≠0:=fun h=>hr (Rat.num_eq_zero.1 h)
 have hi:r⁻¹=sQ (decide (r<0)) r.den r.num.natAbs:=by
  rw[<-mC r⁻¹]
  have e1:r⁻¹.num.natAbs=r.den:=by rw[Rat.num_inv,Int.natAbs_mul,Int.natAbs_natCast,Int.natAbs_sign_of_ne_zero hn,Nat.one_mul]
  have e2:r⁻¹.den=r.num.natAbs:=by rw[Rat.den_inv,if_neg hn]
  have e3:decide (r⁻¹<0)=decide (r<0):=by
   rw[decide_eq_decide,jK,jK,Rat.num_inv]
   have hd:=r.den_nz
   have hd':(0:Int)<(r.den:Int):=aa
   rcases Int.lt_trichotomy r.num 0 with h|h|h
   ·rw[Int.sign_eq_neg_one_of_neg h];omega
   ·exact absurd h hn
   ·rw[Int.sign_eq_one_of_pos h];omega
  rw[e1,e2,e3]
 rw[Rat.div_def,hi]
 conv=>rhs;rw[<-mC q]
 rw[G9]
theorem FX (hn:n<2^42) (hm':m<2^42) (K:Nat):aQ P 142 K [.rat q n,.rat r m] [] (aL (.tuple [.rat (q/r) (n+m),.int .i64 (if r=0 then 3 else 0)]) []):=by
 refine kS fun⟨hq,hr,_⟩=>?_
 have hq:Sz q n:=hq
 have hr:Sz r m:=hr
 obtain⟨a1,a2,a3⟩:=Sz.kU hq aa
 obtain⟨b1,b2,b3⟩:=Sz.kU hr aa
 have d1:=q.den_nz
 have d2:=r.den_nz
 have m1:nl (q.num.natAbs*r.den)<2^40:=lK (n:=n+m) (by rw[Nat.pow_add];exact Nat.mul_lt_mul'' hq.1 hr.2) aa
 have m2:nl (q.den*r.num.natAbs)<2^40:=lK (n:=n+m) (by rw[Nat.pow_add];exact Nat.mul_lt_mul'' hq.2 hr.1) aa
 have hz:=hq.div hr
 have sg:∀{x:Rat},bL x=0↔x=0:=by intro x;unfold bL;grind
 refine ck hT mL hm acw rfl aX rfl 60 afw (fun _=>?_) K []
 refine⟨⟨show 0<1 by omega,show m<2^44 by omega⟩,fun hb=>⟨show 0<1 by omega,show 0<1 by omega,?_,?_,trivial⟩,fun hb=>⟨show 0<1 by omega,?_⟩⟩
 ·have h0:r=0:=sg.1 (eq_of_beq hb)
  have e:q/r=0:=by rw[h0,Rat.div_def,Rat.inv_zero,Rat.mul_zero]
  obtain⟨k,hk⟩:∃k,n+m=k+1:=⟨n+m-1,by have:=hq.pos;omega⟩
  rw[e,hk];exact pO
 ·have h0:r=0:=sg.1 (eq_of_beq hb)
  exact cw (by rw[if_pos h0])
 have h0:r≠0:=fun h=>by
  rw[h]at hb
  simp[bL]at hb
 have hv:=Em q r h0
 have he:aW (.int .i64 0) (.int .i64 (if r=0 then 3 else 0)):=cw (by rw[if_neg h0])
 have hlong:(ag.aj
         [(0:Nat)<1,(0:Nat)<1,(0:Nat)<1,(0:Nat)<1,nl q.num.natAbs<2^40,nl r.den<2^40,(0:Nat)<1,(0:Nat)<1,nl q.den<2^40,nl r.num.natAbs<2^40,nl (q.num.natAbs*r.den)<2^40,nl (q.den*r.num.natAbs)<2^40,(0:Nat)<1]
         (ag.aj [(0:Nat)<1]
          (ag.leaf aq.ret
           [AV.rat (sQ (decide (q<0)!=decide (r<0)) (q.num.natAbs*r.den) (q.den*r.num.natAbs))
             (ef (sQ (decide (q<0)!=decide (r<0)) (q.num.natAbs*r.den) (q.den*r.num.natAbs))),.int .i64 0]))).all fun _ us=>gx us (.tuple [.rat (q/r) (n+m),.int .i64 (if r=0 then 3 else 0)]):=by
  simp only[ag.all,az]
  exact⟨⟨aa,aa,aa,aa,a1,b2,aa,aa,a2,b1,m1,m2,aa⟩,aa,ej hv hz,he,trivial⟩
 refine⟨fun h1=>⟨show 0<1 by omega,fun h2=>?_,fun h2=>hlong⟩,fun h1=>hlong⟩
 obtain⟨q1,q2⟩:=rz h1
 obtain⟨r1,r2⟩:=rz h2
 obtain⟨wx,bx⟩:=qb q1 r2
 obtain⟨wd,bd⟩:=qb q2 r1
 have hr0:r.num.natAbs≠0:=fun h=>h0 (oE.1 h)
 have hd0:q.den*r.num.natAbs≠0:=Nat.mul_ne_zero d1 hr0
 rw[if_pos h1,if_pos h2,if_pos h1,if_pos h2,wx,wd]
 simp only[ag.all,az,bJ]
 exact⟨⟨aa,aa,aa,aa,aa⟩,aa,ej hv hz,he,trivial⟩
end ops
def JT:Spec:=cu fun l=>match l with
 |[.int .i64 n]=>some (aL (.rat (n:Rat) (max 1 (bV n.natAbs))) [-2^63<=n,n<2^63])
 |_=>none
theorem RK:aY P JT 71:=by
 refine cW fun K args r hk hs _=>?_
 split at hs
 ·simp only[ay]at hs
  subst hs
  exact fun need=>S9 need.1 need.2 K trivial
 ·simp at hs
end Go.Am.B
