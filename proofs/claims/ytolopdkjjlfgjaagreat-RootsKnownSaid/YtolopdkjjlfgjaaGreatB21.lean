/- rational.Add, Sub, Mul, Quo, Cmp, Min, Max, Int. -/
import Derived.Test.YtolopdkjjlfgjaaGreatB20
set_option linter.unusedVariables false
namespace Go.Am.B
open Go Go.Am.N AV Proofs.Tryz IntKind
theorem aeY:bC 128 f128:=bD func128
theorem acD:bC 143 f143:=bD func143
theorem SR:bC 130 f130:=bD func130
theorem aea:bC 131 f131:=bD func131
theorem WW:bC 71 f71:=bD func71
def Jl:Spec:=cw fun l=>match l with
 |[.rat q n,.rat r m,.bool s]=>some (aT (.rat (q+sQ s r.num.natAbs r.den) (n+m+1)) [n<2^42,m<2^42])
 |_=>none
def JB:Spec:=cw fun l=>match l with
 |[.rat q n,.rat r m]=>some (aT (.int .i64 (gq q r)) [n<2^42,m<2^42])
 |_=>none
abbrev Dd:FuncId×Spec:=(166,Kg)
def GA:bG:=(164,Jl)::(58,JB)::Dd::(134,Nk)::(132,Ec)::(133,Dx)::[]
theorem adw {q r:Rat} {n m:Nat}:cy T GA [] 60 f128 (aJ f128) ⟨bf 0 [.rat q n,.rat r m],[],0⟩=
  let c1:Prop:=0<1;some (af.aj [c1,c1,c1,n<2^42,m<2^42,c1] (af.aj [c1] (af.leaf au.ret [rat (q+sQ (decide (r<0)) r.num.natAbs r.den) (n+m+1)]))):=ah
theorem aa6 {q r:Rat} {n m:Nat}:cy T GA [] 60 f143 (aJ f143) ⟨bf 0 [.rat q n,.rat r m],[],0⟩=
  let c1:Prop:=0<1;some (af.aj [c1,c1,c1,n<2^42,m<2^42,c1] (af.aj [c1] (af.leaf au.ret [rat (q+sQ (!decide (r<0)) r.num.natAbs r.den) (n+m+1)]))):=ah
theorem Xj {q r:Rat} {n m:Nat}:cy T GA [8] 60 f130 (aJ f130) ⟨bf 0 [.rat q n,.rat r m],[],0⟩=
  let c1:Prop:=0<1;some (af.aj [c1,c1,m<2^42,n<2^42] (af.fork (decide (gq r q<0)) (af.aj [c1,c1] (af.aj [c1,m<2^44,c1] (af.aj [c1] (af.leaf au.ret [rat r m])))) (af.aj [c1,n<2^44,c1] (af.aj [c1] (af.leaf au.ret [rat q n]))))):=ah
theorem VU {q r:Rat} {n m:Nat}:cy T GA [8] 60 f131 (aJ f131) ⟨bf 0 [.rat q n,.rat r m],[],0⟩=
  let c1:Prop:=0<1;some (af.aj [c1,c1,m<2^42,n<2^42] (af.fork (decide (gq r q>0)) (af.aj [c1,c1] (af.aj [c1,m<2^44,c1] (af.aj [c1] (af.leaf au.ret [rat r m])))) (af.aj [c1,n<2^44,c1] (af.aj [c1] (af.leaf au.ret [rat q n]))))):=ah
theorem Qn {n:Int}:cy T GA [] 60 f71 (aJ f71) ⟨bf 0 [.int .i64 n],[],0⟩=
  let c1:Rat:=sQ (decide (n<0)) n.natAbs 1;some (af.aj [-(2:Int)^63<=n,n<2^63,nl n.natAbs<2^40,nl 1<2^40,(0:Nat)<1] (af.aj [(0:Nat)<1] (af.leaf au.ret [rat c1 (dR c1)]))):=ah
theorem ae7 {q r:Rat} {n m:Nat}:cy T GQ [20,23,34,47,49,56,63,76] 60 f58 (aJ f58) ⟨bf 0 [.rat q n,.rat r m],[],0⟩=
  let c14:af (List AV):=af.leaf au.ret [int .i64 (0:Int)];let c13:Nat:=q.num.natAbs;let c12:Nat:=r.num.natAbs;let c11:af (List AV):=af.leaf au.ret [int .i64 (1:Int)];let c10:Bool:=decide (q<0);let c9:af (List AV):=af.leaf au.ret [int .i64 (-1:Int)];let c8:Nat:=if r.den=1 then 0 else r.den;let c7:Nat:=if q.den=1 then 0 else q.den;let c6:Nat:=2^40;let c5:Prop:=0<1;let c15:Int:=dG (c13*r.den) (c12*q.den);let c4:Int:=u64.wrap ((↑(if fC q=true then c13 else 0):Int)*(↑(if fC r=true then r.den else 0):Int));let c3:Int:=u64.wrap ((↑(if fC r=true then c12 else 0):Int)*(↑(if fC q=true then q.den else 0):Int));let c2:af (List AV):=af.aj [c5,c5,nl c13<c6,nl r.den<c6,c5,c5,nl c12<c6,nl q.den<c6,nl (c13*r.den)<c6,nl (c12*q.den)<c6] (af.aj [c5] (af.fork c10 (af.leaf au.ret [int .i64 (i64.wrap ((0:Int)-c15))]) (af.leaf au.ret [int .i64 c15])));let c1:af (List AV):=af.fork (decide (c4<c3)) (af.aj [c5] (af.fork c10 c11 c9)) (af.fork (decide (c4>c3)) (af.aj [c5] (af.fork c10 c9 c11)) (af.aj [c5] (af.fork c10 c14 c14)));some (af.aj [c5,n<2^44,c5,m<2^44] (af.fork (bR q !=bR r) (af.fork (decide (bR q<bR r)) c9 c11) (af.aj [c5] (af.aj [c5,c5,nl c7<c6,nl c8<c6] (af.fork (decide (c7=c8)) (af.aj [c5,c5,nl c13<c6,nl c12<c6] (af.aj [c5] (af.fork c10 (af.leaf au.ret [int .i64 (i64.wrap ((0:Int)-dG c13 c12))]) (af.leaf au.ret [int .i64 (dG c13 c12)])))) (af.aj [c5] (af.fork (fC q) (af.aj [fC q=true] (af.fork (bif true then fC r else false) c1 c2)) (af.aj [fC q=false] (af.fork false c1 c2))))))))):=ah
theorem aa1:bF P Jl 164:=by
 refine cX fun K args r hk hs _=>?_
 split at hs
 ·simp only[aB]at hs
  subst hs
  exact fun need=>adM need.1 need.2 K [] trivial
 ·simp at hs
theorem B7 {q r:Rat} (h:bR q≠bR r):gq q r=if bR q<bR r then-1 else 1:=by
 unfold bR gq at*
 grind
theorem ad4 {a b:Nat}:-dG a b=dG b a:=by unfold dG;split<;>split<;>omega
theorem MS {a b k:Nat} (hk:0<k):dG (a*k) (b*k)=dG a b:=by
 unfold dG
 simp only[Nat.mul_lt_mul_right hk]
theorem Cv {a b:Nat}:i64.wrap (0-dG a b)=-dG a b:=by
 have:dG a b=-1\/dG a b=0\/dG a b=1:=by unfold dG;split;exact .inl rfl;split;exact .inr (.inr rfl);exact .inr (.inl rfl)
 rcases this with h|h|h<;>rw[h]<;>rfl
theorem p6 {q r:Rat} (h:bR q=bR r):gq q r=if q<0 then-dG (q.num.natAbs*r.den) (r.num.natAbs*q.den)else dG (q.num.natAbs*r.den) (r.num.natAbs*q.den):=by
 have h1:q<0↔r<0:=by unfold bR at h;grind
 have e1:∀{a b:Nat},(-(a:Int))*(b:Int)=-((a*b:Nat):Int):=fun {a b}=>by simp[Int.neg_mul]
 have e2:∀{a b:Nat},(a:Int)*(b:Int)=((a*b:Nat):Int):=fun {a b}=>by simp
 unfold gq
 by_cases hq:q<0
 ·have hr:=h1.1 hq
  have q1:q.num=-(q.num.natAbs:Int):=by have:=kj.1 hq;omega
  have r1:r.num=-(r.num.natAbs:Int):=by have:=kj.1 hr;omega
  have l1:q<r↔r.num.natAbs*q.den<q.num.natAbs*r.den:=by
   rw[Rat.lt_iff]
   conv=>lhs;rw[q1,r1,e1,e1]
   omega
  have l2:r<q↔q.num.natAbs*r.den<r.num.natAbs*q.den:=by
   rw[Rat.lt_iff]
   conv=>lhs;rw[q1,r1,e1,e1]
   omega
  rw[if_pos hq,ad4]
  unfold dG
  simp only[l1,l2]
 ·have hr:¬r<0:=fun h=>hq (h1.2 h)
  have q1:q.num=(q.num.natAbs:Int):=by have:¬q.num<0:=fun h=>hq (kj.2 h);omega
  have r1:r.num=(r.num.natAbs:Int):=by have:¬r.num<0:=fun h=>hr (kj.2 h);omega
  have l1:q<r↔q.num.natAbs*r.den<r.num.natAbs*q.den:=by
   rw[Rat.lt_iff]
   conv=>lhs;rw[q1,r1,e2,e2]
   omega
  have l2:r<q↔r.num.natAbs*q.den<q.num.natAbs*r.den:=by
   rw[Rat.lt_iff]
   conv=>lhs;rw[q1,r1,e2,e2]
   omega
  rw[if_neg hq]
  unfold dG
  simp only[l1,l2]
theorem J6 {q r:Rat} {n m:Nat} (hn:n<2^42) (hm':m<2^42) (K:Nat) (pre:aG):aY P 58 K [.rat q n,.rat r m] pre (aT (.int .i64 (gq q r)) []):=by
 refine lU fun⟨hq,hr,_⟩=>?_
 have hq:Sz q n:=hq
 have hr:Sz r m:=hr
 obtain⟨a1,a2,a3⟩:=Sz.lG hq aa
 obtain⟨b1,b2,b3⟩:=Sz.lG hr aa
 have d1:=q.den_nz
 have d2:=r.den_nz
 have m1:nl (q.num.natAbs*r.den)<2^40:=lY (n:=n+m) (by rw[Nat.pow_add];exact Nat.mul_lt_mul'' hq.1 hr.2) aa
 have m2:nl (r.num.natAbs*q.den)<2^40:=lY (n:=m+n) (by rw[Nat.pow_add];exact Nat.mul_lt_mul'' hr.1 hq.2) aa
 refine cB hT mY hm QG rfl br rfl 60 ae7 (fun _=>?_) K pre
 simp only[af.all,aF,bne_iff_ne,ne_eq,bne_eq_false_iff_eq]
 refine⟨⟨aa,aa,aa,aa⟩,fun hs=>⟨fun hl=>cu ?_,fun hl=>cu ?_⟩,fun hs=>⟨aa,⟨aa,aa,a3,b3⟩,fun hd=>⟨⟨aa,aa,a1,b1⟩,aa,fun hc=>cu ?_,fun hc=>cu ?_⟩,fun hd=>⟨aa,fun hp=>⟨hp,fun hp2=>?_,fun hp2=>⟨⟨aa,aa,a1,b2,aa,aa,b1,a2,m1,m2⟩,aa,fun hc=>cu ?_,fun hc=>cu ?_⟩⟩,fun hp=>⟨hp,fun h=>by simp at h,fun _=>⟨⟨aa,aa,a1,b2,aa,aa,b1,a2,m1,m2⟩,aa,fun hc=>cu ?_,fun hc=>cu ?_⟩⟩⟩⟩⟩
 ·rw[B7 hs,if_pos (of_decide_eq_true hl)]
 ·rw[B7 hs,if_neg (of_decide_eq_false hl)]
 ·have hd:=of_decide_eq_true hd
  have e:q.den=r.den:=by split at hd<;>split at hd<;>omega
  rw[p6 hs,if_pos (of_decide_eq_true hc),e,MS aa,Cv]
 ·have hd:=of_decide_eq_true hd
  have e:q.den=r.den:=by split at hd<;>split at hd<;>omega
  rw[p6 hs,if_neg (of_decide_eq_false hc),e,MS aa]
 ·have hp2:=kB hp2
  obtain⟨q1,q2⟩:=ri hp
  obtain⟨r1,r2⟩:=ri hp2
  rw[if_pos hp,if_pos hp2,if_pos hp2,if_pos hp,(ql q1 r2).1,(ql r1 q2).1]
  have hcs:=p6 hs
  generalize q.num.natAbs*r.den=X at*
  generalize r.num.natAbs*q.den=Y at*
  unfold dG at hcs
  refine⟨fun h1=>⟨aa,fun hc=>cu ?_,fun hc=>cu ?_⟩,fun h1=>⟨fun h2=>⟨aa,fun hc=>cu ?_,fun hc=>cu ?_⟩,fun h2=>⟨aa,fun hc=>cu ?_,fun hc=>cu ?_⟩⟩⟩
  all_goals rw[hcs]
  ·rw[if_pos (of_decide_eq_true hc),if_pos (by have:=of_decide_eq_true h1;omega)];rfl
  ·rw[if_neg (of_decide_eq_false hc),if_pos (by have:=of_decide_eq_true h1;omega)]
  ·rw[if_pos (of_decide_eq_true hc),if_neg (by have:=of_decide_eq_false h1;omega),if_pos (by have:=of_decide_eq_true h2;omega)]
  ·rw[if_neg (of_decide_eq_false hc),if_neg (by have:=of_decide_eq_false h1;omega),if_pos (by have:=of_decide_eq_true h2;omega)]
  ·rw[if_pos (of_decide_eq_true hc),if_neg (by have:=of_decide_eq_false h1;omega),if_neg (by have:=of_decide_eq_false h2;omega)];rfl
  ·rw[if_neg (of_decide_eq_false hc),if_neg (by have:=of_decide_eq_false h1;omega),if_neg (by have:=of_decide_eq_false h2;omega)]
 ·rw[p6 hs,if_pos (of_decide_eq_true hc),Cv]
 ·rw[p6 hs,if_neg (of_decide_eq_false hc)]
 ·rw[p6 hs,if_pos (of_decide_eq_true hc),Cv]
 ·rw[p6 hs,if_neg (of_decide_eq_false hc)]
theorem aa4:bF P JB 58:=by
 refine cX fun K args r hk hs _=>?_
 split at hs
 ·simp only[aB]at hs
  subst hs
  exact fun need=>J6 need.1 need.2 K [] trivial
 ·simp at hs
theorem Y5:bF P Dd.2 Dd.1:=VC
theorem zF:cm P GA:=aM aa1 (aM aa4 (aM Y5 (aM QB (aM Ig (aM Oz cK)))))
section ops
variable {q r:Rat} {n m:Nat}
theorem Tt (hn:n<2^42) (hm':m<2^42) (K:Nat):aY P 128 K [.rat q n,.rat r m] [] (aT (.rat (q+r) (n+m+1)) []):=by
 refine cB hT zF hm aeY rfl br rfl 60 adw (fun _=>?_) K []
 simp only[af.all,aF,mB]
 exact⟨⟨aa,aa,aa,hn,hm',aa⟩,aa,.refl _⟩
theorem WA (r:Rat):sQ (!decide (r<0)) r.num.natAbs r.den=-r:=by
 have h:=mB r
 conv=>rhs;rw[<-h]
 unfold sQ
 rw[Rat.neg_mkRat]
 congr 1
 unfold gu
 by_cases h:r<0<;>simp[h]
theorem Xo (hn:n<2^42) (hm':m<2^42) (K:Nat):aY P 143 K [.rat q n,.rat r m] [] (aT (.rat (q-r) (n+m+1)) []):=by
 refine cB hT zF hm acD rfl br rfl 60 aa6 (fun _=>?_) K []
 simp only[af.all,aF,WA]
 exact⟨⟨aa,aa,aa,hn,hm',aa⟩,aa,fz (by rw[Rat.sub_eq_add_neg])⟩
def gh (q r:Rat):Rat:=if r<q then r else q
def fR (q r:Rat):Rat:=if q<r then r else q
theorem AX {q r:Rat}:gq q r<0↔q<r:=by unfold gq;grind
theorem On {q r:Rat}:gq q r>0↔r<q:=by unfold gq;grind
theorem P9 (hn:n<2^42) (hm':m<2^42) (K:Nat):aY P 130 K [.rat q n,.rat r m] [] (aT (.rat (gh q r) (max n m)) []):=by
 refine cB hT zF hm SR rfl br rfl 60 Xj (fun _=>?_) K []
 simp only[af.all,aF,bI,bO,AX]
 refine⟨⟨aa,aa,hm',hn⟩,fun h=>⟨⟨aa,aa⟩,⟨aa,aa,aa⟩,aa,?_⟩,fun h=>⟨⟨aa,aa,aa⟩,aa,?_⟩⟩
 ·unfold gh;rw[if_pos h];exact o7 (Nat.le_max_right _ _)
 ·unfold gh;rw[if_neg h];exact o7 (Nat.le_max_left _ _)
theorem Yk (hn:n<2^42) (hm':m<2^42) (K:Nat):aY P 131 K [.rat q n,.rat r m] [] (aT (.rat (fR q r) (max n m)) []):=by
 refine cB hT zF hm aea rfl br rfl 60 VU (fun _=>?_) K []
 simp only[af.all,aF,bI,bO,On]
 refine⟨⟨aa,aa,hm',hn⟩,fun h=>⟨⟨aa,aa⟩,⟨aa,aa,aa⟩,aa,?_⟩,fun h=>⟨⟨aa,aa,aa⟩,aa,?_⟩⟩
 ·unfold fR;rw[if_pos h];exact o7 (Nat.le_max_right _ _)
 ·unfold fR;rw[if_neg h];exact o7 (Nat.le_max_left _ _)
theorem abE {n:Int}:sQ (decide (n<0)) n.natAbs 1=(n:Rat):=by
 unfold sQ
 have:gu (decide (n<0)) n.natAbs=n:=by unfold gu;by_cases h:n<0<;>simp[h]<;>omega
 rw[this,Rat.mkRat_one]
theorem F2 {n:Int}:Sz (n:Rat) (max 1 (bS n.natAbs)):=by
 refine⟨?_,?_⟩
 ·rw[Rat.num_intCast]
  exact Nat.lt_of_lt_of_le (lD.1 aX) (Nat.pow_le_pow_right aa (Nat.le_max_right _ _))
 ·rw[Rat.den_intCast]
  exact Nat.lt_of_lt_of_le (show 1<2^1 by omega) (Nat.pow_le_pow_right aa (Nat.le_max_left _ _))
theorem adF {n:Int} (h1:-2^63<=n) (h2:n<2^63) (K:Nat):aY P 71 K [.int .i64 n] [] (aT (.rat (n:Rat) (max 1 (bS n.natAbs))) []):=by
 refine cB hT zF hm WW rfl br rfl 60 Qn (fun _=>?_) K []
 simp only[af.all,aF,abE]
 exact⟨⟨h1,h2,lY (n:=64) aa aa,by decide,aa⟩,aa,fL rfl F2⟩
theorem Mr (hn:n<2^42) (hm':m<2^42) (K:Nat):aY P 129 K [.rat q n,.rat r m] [] (aT (.rat (q*r) (n+m)) []):=by
 refine lU fun⟨hq,hr,_⟩=>?_
 have hq:Sz q n:=hq
 have hr:Sz r m:=hr
 obtain⟨a1,a2,a3⟩:=Sz.lG hq aa
 obtain⟨b1,b2,b3⟩:=Sz.lG hr aa
 have d1:=q.den_nz
 have d2:=r.den_nz
 have m1:nl (q.num.natAbs*r.num.natAbs)<2^40:=lY (n:=n+m) (by rw[Nat.pow_add];exact Nat.mul_lt_mul'' hq.1 hr.1) aa
 have m2:nl (q.den*r.den)<2^40:=lY (n:=n+m) (by rw[Nat.pow_add];exact Nat.mul_lt_mul'' hq.2 hr.2) aa
 have hz:=hq.mul hr
 have hv:sQ (decide (q<0)!=decide (r<0)) (q.num.natAbs*r.num.natAbs) (q.den*r.den)=q*r:=by rw[<-EE,mB,mB]
 have hzero:q=0\/r=0->bg (.agg [.bool false,.mag 0,.mag 0]) (.rat (q*r) (n+m)):=by
  intro h
  have e:q*r=0:=by rcases h with h|h<;>subst h<;>simp
  obtain⟨k,hk⟩:∃k,n+m=k+1:=⟨n+m-1,by have:=hq.pos;omega⟩
  rw[e,hk];exact pH
 refine cB hT mY hm XH rfl br rfl 60 aco (fun _=>?_) K []
 have hlong:(af.aj
         [(0:Nat)<1,(0:Nat)<1,(0:Nat)<1,(0:Nat)<1,nl q.num.natAbs<2^40,nl r.num.natAbs<2^40,(0:Nat)<1,(0:Nat)<1,nl q.den<2^40,nl r.den<2^40,nl (q.num.natAbs*r.num.natAbs)<2^40,nl (q.den*r.den)<2^40,(0:Nat)<1]
         (af.aj [(0:Nat)<1]
          (af.leaf au.ret
           [AV.rat (sQ (decide (q<0)!=decide (r<0)) (q.num.natAbs*r.num.natAbs) (q.den*r.den))
             (dR (sQ (decide (q<0)!=decide (r<0)) (q.num.natAbs*r.num.natAbs) (q.den*r.den)))]))).all fun _ us=>jb us (.rat (q*r) (n+m)):=by
  simp only[af.all,aF]
  exact⟨⟨aa,aa,aa,aa,a1,b1,aa,aa,a2,b2,m1,m2,aa⟩,aa,fL hv hz⟩
 refine⟨fun hb=>⟨⟨show 0<1 by omega,hb⟩,fun _=>⟨show 0<1 by omega,show 0<1 by omega,hzero (.inl ?_)⟩,fun h=>by simp at h⟩,fun hb=>⟨⟨show 0<1 by omega,hb,show 0<1 by omega⟩,fun hc=>⟨show 0<1 by omega,show 0<1 by omega,hzero (.inr ?_)⟩,fun hc=>⟨show 0<1 by omega,fun h1=>⟨show 0<1 by omega,fun h2=>?_,fun h2=>hlong⟩,fun h1=>hlong⟩⟩⟩
 ·have:=eq_of_beq hb
  exact oE.1 (kD.1 aa)
 ·have:=eq_of_beq (jF hc)
  exact oE.1 (kD.1 aa)
 ·obtain⟨q1,q2⟩:=ri h1
  obtain⟨r1,r2⟩:=ri h2
  obtain⟨wx,bx⟩:=ql q1 r1
  obtain⟨wd,bd⟩:=ql q2 r2
  have hd0:q.den*r.den≠0:=Nat.mul_ne_zero d1 d2
  rw[if_pos h1,if_pos h2,if_pos h1,if_pos h2,wx,wd]
  simp only[af.all,aF,bJ]
  exact⟨⟨aa,aa,aa,aa,aa⟩,aa,fL hv hz⟩
theorem C3 (q r:Rat) (hr:r≠0):sQ (decide (q<0)!=decide (r<0)) (q.num.natAbs*r.den) (q.den*r.num.natAbs)=q/r:=by
 have hn:r.num≠0:=fun h=>hr (Rat.num_eq_zero.1 h)
 have hi:r⁻¹=sQ (decide (r<0)) r.den r.num.natAbs:=by
  rw[<-mB r⁻¹]
  have e1:r⁻¹.num.natAbs=r.den:=by rw[Rat.num_inv,Int.natAbs_mul,Int.natAbs_natCast,Int.natAbs_sign_of_ne_zero hn,Nat.one_mul]
  have e2:r⁻¹.den=r.num.natAbs:=by rw[Rat.den_inv,if_neg hn]
  have e3:decide (r⁻¹<0)=decide (r<0):=by
   rw[decide_eq_decide,kj,kj,Rat.num_inv]
   have hd:=r.den_nz
   have hd':(0:Int)<(r.den:Int):=aa
   rcases Int.lt_trichotomy r.num 0 with h|h|h
   ·rw[Int.sign_eq_neg_one_of_neg h];omega
   ·exact absurd h hn
   ·rw[Int.sign_eq_one_of_pos h];omega
  rw[e1,e2,e3]
 rw[Rat.div_def,hi]
 conv=>rhs;rw[<-mB q]
 rw[EE]
theorem Dh (hn:n<2^42) (hm':m<2^42) (K:Nat):aY P 142 K [.rat q n,.rat r m] [] (aT (.tuple [.rat (q/r) (n+m),.int .i64 (if r=0 then 3 else 0)]) []):=by
 refine lU fun⟨hq,hr,_⟩=>?_
 have hq:Sz q n:=hq
 have hr:Sz r m:=hr
 obtain⟨a1,a2,a3⟩:=Sz.lG hq aa
 obtain⟨b1,b2,b3⟩:=Sz.lG hr aa
 have d1:=q.den_nz
 have d2:=r.den_nz
 have m1:nl (q.num.natAbs*r.den)<2^40:=lY (n:=n+m) (by rw[Nat.pow_add];exact Nat.mul_lt_mul'' hq.1 hr.2) aa
 have m2:nl (q.den*r.num.natAbs)<2^40:=lY (n:=n+m) (by rw[Nat.pow_add];exact Nat.mul_lt_mul'' hq.2 hr.1) aa
 have hz:=hq.div hr
 have sg:∀{x:Rat},bR x=0↔x=0:=by intro x;unfold bR;grind
 refine cB hT mY hm acK rfl br rfl 60 ab1 (fun _=>?_) K []
 refine⟨⟨show 0<1 by omega,show m<2^44 by omega⟩,fun hb=>⟨show 0<1 by omega,show 0<1 by omega,?_,?_,trivial⟩,fun hb=>⟨show 0<1 by omega,?_⟩⟩
 ·have h0:r=0:=sg.1 (eq_of_beq hb)
  have e:q/r=0:=by rw[h0,Rat.div_def,Rat.inv_zero,Rat.mul_zero]
  obtain⟨k,hk⟩:∃k,n+m=k+1:=⟨n+m-1,by have:=hq.pos;omega⟩
  rw[e,hk];exact pH
 ·have h0:r=0:=sg.1 (eq_of_beq hb)
  exact cu (by rw[if_pos h0])
 have h0:r≠0:=fun h=>by
  rw[h]at hb
  simp[bR]at hb
 have hv:=C3 q r h0
 have he:bg (.int .i64 0) (.int .i64 (if r=0 then 3 else 0)):=cu (by rw[if_neg h0])
 have hlong:(af.aj
         [(0:Nat)<1,(0:Nat)<1,(0:Nat)<1,(0:Nat)<1,nl q.num.natAbs<2^40,nl r.den<2^40,(0:Nat)<1,(0:Nat)<1,nl q.den<2^40,nl r.num.natAbs<2^40,nl (q.num.natAbs*r.den)<2^40,nl (q.den*r.num.natAbs)<2^40,(0:Nat)<1]
         (af.aj [(0:Nat)<1]
          (af.leaf au.ret
           [AV.rat (sQ (decide (q<0)!=decide (r<0)) (q.num.natAbs*r.den) (q.den*r.num.natAbs))
             (dR (sQ (decide (q<0)!=decide (r<0)) (q.num.natAbs*r.den) (q.den*r.num.natAbs))),.int .i64 0]))).all fun _ us=>jb us (.tuple [.rat (q/r) (n+m),.int .i64 (if r=0 then 3 else 0)]):=by
  simp only[af.all,aF]
  exact⟨⟨aa,aa,aa,aa,a1,b2,aa,aa,a2,b1,m1,m2,aa⟩,aa,fL hv hz,he,trivial⟩
 refine⟨fun h1=>⟨show 0<1 by omega,fun h2=>?_,fun h2=>hlong⟩,fun h1=>hlong⟩
 obtain⟨q1,q2⟩:=ri h1
 obtain⟨r1,r2⟩:=ri h2
 obtain⟨wx,bx⟩:=ql q1 r2
 obtain⟨wd,bd⟩:=ql q2 r1
 have hr0:r.num.natAbs≠0:=fun h=>h0 (oE.1 h)
 have hd0:q.den*r.num.natAbs≠0:=Nat.mul_ne_zero d1 hr0
 rw[if_pos h1,if_pos h2,if_pos h1,if_pos h2,wx,wd]
 simp only[af.all,aF,bJ]
 exact⟨⟨aa,aa,aa,aa,aa⟩,aa,fL hv hz,he,trivial⟩
end ops
def Me:Spec:=cw fun l=>match l with
 |[.int .i64 n]=>some (aT (.rat (n:Rat) (max 1 (bS n.natAbs))) [-2^63<=n,n<2^63])
 |_=>none
theorem QU:bF P Me 71:=by
 refine cX fun K args r hk hs _=>?_
 split at hs
 ·simp only[aB]at hs
  subst hs
  exact fun need=>adF need.1 need.2 K trivial
 ·simp at hs
end Go.Am.B
