/- rational.Add, Sub, Mul, Quo, Cmp, Min, Max, Int. -/
import Derived.Test.YtgfjdngnneoeoaaGreatB20
set_option linter.unusedVariables false
namespace Go.Am.B
open Go Go.Am.N AV Proofs.Tryz IntKind
theorem aeb:aW 91 f91:=aN func91
theorem ab7:aW 38 f38:=aN func38
theorem Xx:aW 78 f78:=aN func78
theorem ae9:aW 77 f77:=aN func77
theorem X8:aW 34 f34:=aN func34
def Li:Spec:=bY fun l=>match l with
 |[.rat q n,.rat r m,.bool s]=>some (aI (.rat (q+sQ s r.num.natAbs r.den) (n+m+1)) [n<2^42,m<2^42])
 |_=>none
def LN:Spec:=bY fun l=>match l with
 |[.rat q n,.rat r m]=>some (aI (.int .i64 (cZ q r)) [n<2^42,m<2^42])
 |_=>none
abbrev Cm:FuncId×Spec:=(128,L9)
def GA:aU:=(89,Li)::(79,LN)::Cm::(81,LP)::(82,DS)::(80,Bw)::[]
theorem aeJ {q r:Rat} {n m:Nat}:bD T GA [] 60 f91 (aF f91) ⟨aT 0 [.rat q n,.rat r m],[],0⟩=
  let c1:Prop:=0<1;some (ag.aj [c1,c1,c1,n<2^42,m<2^42,c1] (ag.aj [c1] (ag.leaf ak.ret [rat (q+sQ (decide (r<0)) r.num.natAbs r.den) (n+m+1)]))):=ah
theorem Zs {q r:Rat} {n m:Nat}:bD T GA [] 60 f38 (aF f38) ⟨aT 0 [.rat q n,.rat r m],[],0⟩=
  let c1:Prop:=0<1;some (ag.aj [c1,c1,c1,n<2^42,m<2^42,c1] (ag.aj [c1] (ag.leaf ak.ret [rat (q+sQ (!decide (r<0)) r.num.natAbs r.den) (n+m+1)]))):=ah
theorem acy {q r:Rat} {n m:Nat}:bD T GA [8] 60 f78 (aF f78) ⟨aT 0 [.rat q n,.rat r m],[],0⟩=
  let c1:Prop:=0<1;some (ag.aj [c1,c1,m<2^42,n<2^42] (ag.fork (decide (cZ r q<0)) (ag.aj [c1,c1] (ag.aj [c1,m<2^44,c1] (ag.aj [c1] (ag.leaf ak.ret [rat r m])))) (ag.aj [c1,n<2^44,c1] (ag.aj [c1] (ag.leaf ak.ret [rat q n]))))):=ah
theorem abf {q r:Rat} {n m:Nat}:bD T GA [8] 60 f77 (aF f77) ⟨aT 0 [.rat q n,.rat r m],[],0⟩=
  let c1:Prop:=0<1;some (ag.aj [c1,c1,m<2^42,n<2^42] (ag.fork (decide (cZ r q>0)) (ag.aj [c1,c1] (ag.aj [c1,m<2^44,c1] (ag.aj [c1] (ag.leaf ak.ret [rat r m])))) (ag.aj [c1,n<2^44,c1] (ag.aj [c1] (ag.leaf ak.ret [rat q n]))))):=ah
theorem ZG {n:Int}:bD T GA [] 60 f34 (aF f34) ⟨aT 0 [.int .i64 n],[],0⟩=
  let c1:Rat:=sQ (decide (n<0)) n.natAbs 1;some (ag.aj [-(2:Int)^63<=n,n<2^63,nl n.natAbs<2^40,nl 1<2^40,(0:Nat)<1] (ag.aj [(0:Nat)<1] (ag.leaf ak.ret [rat c1 (dj c1)]))):=ah
theorem aff {q r:Rat} {n m:Nat}:bD T GQ [20,23,34,47,49,56,63,76] 60 f79 (aF f79) ⟨aT 0 [.rat q n,.rat r m],[],0⟩=
  let c14:ag (List AV):=ag.leaf ak.ret [int .i64 (0:Int)];let c13:Nat:=q.num.natAbs;let c12:Nat:=r.num.natAbs;let c11:ag (List AV):=ag.leaf ak.ret [int .i64 (1:Int)];let c10:Bool:=decide (q<0);let c9:ag (List AV):=ag.leaf ak.ret [int .i64 (-1:Int)];let c8:Nat:=if r.den=1 then 0 else r.den;let c7:Nat:=if q.den=1 then 0 else q.den;let c6:Nat:=2^40;let c5:Prop:=0<1;let c15:Int:=cV (c13*r.den) (c12*q.den);let c4:Int:=u64.wrap ((↑(if eu q=true then c13 else 0):Int)*(↑(if eu r=true then r.den else 0):Int));let c3:Int:=u64.wrap ((↑(if eu r=true then c12 else 0):Int)*(↑(if eu q=true then q.den else 0):Int));let c2:ag (List AV):=ag.aj [c5,c5,nl c13<c6,nl r.den<c6,c5,c5,nl c12<c6,nl q.den<c6,nl (c13*r.den)<c6,nl (c12*q.den)<c6] (ag.aj [c5] (ag.fork c10 (ag.leaf ak.ret [int .i64 (i64.wrap ((0:Int)-c15))]) (ag.leaf ak.ret [int .i64 c15])));let c1:ag (List AV):=ag.fork (decide (c4<c3)) (ag.aj [c5] (ag.fork c10 c11 c9)) (ag.fork (decide (c4>c3)) (ag.aj [c5] (ag.fork c10 c9 c11)) (ag.aj [c5] (ag.fork c10 c14 c14)));some (ag.aj [c5,n<2^44,c5,m<2^44] (ag.fork (eE q !=eE r) (ag.fork (decide (eE q<eE r)) c9 c11) (ag.aj [c5] (ag.aj [c5,c5,nl c7<c6,nl c8<c6] (ag.fork (decide (c7=c8)) (ag.aj [c5,c5,nl c13<c6,nl c12<c6] (ag.aj [c5] (ag.fork c10 (ag.leaf ak.ret [int .i64 (i64.wrap ((0:Int)-cV c13 c12))]) (ag.leaf ak.ret [int .i64 (cV c13 c12)])))) (ag.aj [c5] (ag.fork (eu q) (ag.aj [eu q=true] (ag.fork (bif true then eu r else false) c1 c2)) (ag.aj [eu q=false] (ag.fork false c1 c2))))))))):=ah
theorem Sm:aY P Li 89:=by
 refine cJ fun K args r hk hs _=>?_
 split at hs
 ·simp only[ax]at hs
  subst hs
  exact fun need=>agt need.1 need.2 K [] trivial
 ·simp at hs
theorem zP {q r:Rat} (h:eE q≠eE r):cZ q r=if eE q<eE r then-1 else 1:=by
 unfold eE cZ at*
 grind
theorem QI {a b:Nat}:-cV a b=cV b a:=by unfold cV;split<;>split<;>omega
theorem GI {a b k:Nat} (hk:0<k):cV (a*k) (b*k)=cV a b:=by
 unfold cV
 simp only[Nat.mul_lt_mul_right hk]
theorem yH {a b:Nat}:i64.wrap (0-cV a b)=-cV a b:=by
 have:cV a b=-1\/cV a b=0\/cV a b=1:=by unfold cV;split;exact .inl rfl;split;exact .inr (.inr rfl);exact .inr (.inl rfl)
 rcases this with h|h|h<;>rw[h]<;>rfl
theorem nw {q r:Rat} (h:eE q=eE r):cZ q r=if q<0 then-cV (q.num.natAbs*r.den) (r.num.natAbs*q.den)else cV (q.num.natAbs*r.den) (r.num.natAbs*q.den):=by
 have h1:q<0↔r<0:=by unfold eE at h;grind
 have e1:∀{a b:Nat},(-(a:Int))*(b:Int)=-((a*b:Nat):Int):=fun {a b}=>by simp[Int.neg_mul]
 have e2:∀{a b:Nat},(a:Int)*(b:Int)=((a*b:Nat):Int):=fun {a b}=>by simp
 unfold cZ
 by_cases hq:q<0
 ·have hr:=h1.1 hq
  have q1:q.num=-(q.num.natAbs:Int):=by have:=iZ.1 hq;omega
  have r1:r.num=-(r.num.natAbs:Int):=by have:=iZ.1 hr;omega
  have l1:q<r↔r.num.natAbs*q.den<q.num.natAbs*r.den:=by
   rw[Rat.lt_iff]
   conv=>lhs;rw[q1,r1,e1,e1]
   omega
  have l2:r<q↔q.num.natAbs*r.den<r.num.natAbs*q.den:=by
   rw[Rat.lt_iff]
   conv=>lhs;rw[q1,r1,e1,e1]
   omega
  rw[if_pos hq,QI]
  unfold cV
  simp only[l1,l2]
 ·have hr:¬r<0:=fun h=>hq (h1.2 h)
  have q1:q.num=(q.num.natAbs:Int):=by have:¬q.num<0:=fun h=>hq (iZ.2 h);omega
  have r1:r.num=(r.num.natAbs:Int):=by have:¬r.num<0:=fun h=>hr (iZ.2 h);omega
  have l1:q<r↔q.num.natAbs*r.den<r.num.natAbs*q.den:=by
   rw[Rat.lt_iff]
   conv=>lhs;rw[q1,r1,e2,e2]
   omega
  have l2:r<q↔r.num.natAbs*q.den<q.num.natAbs*r.den:=by
   rw[Rat.lt_iff]
   conv=>lhs;rw[q1,r1,e2,e2]
   omega
  rw[if_neg hq]
  unfold cV
  simp only[l1,l2]
theorem Aw {q r:Rat} {n m:Nat} (hn:n<2^42) (hm':m<2^42) (K:Nat) (pre:aD):aO P 79 K [.rat q n,.rat r m] pre (aI (.int .i64 (cZ q r)) []):=by
 refine j8 fun⟨hq,hr,_⟩=>?_
 have hq:Sz q n:=hq
 have hr:Sz r m:=hr
 obtain⟨a1,a2,a3⟩:=Sz.jV hq aa
 obtain⟨b1,b2,b3⟩:=Sz.jV hr aa
 have d1:=q.den_nz
 have d2:=r.den_nz
 have m1:nl (q.num.natAbs*r.den)<2^40:=jU (n:=n+m) (by rw[Nat.pow_add];exact Nat.mul_lt_mul'' hq.1 hr.2) aa
 have m2:nl (r.num.natAbs*q.den)<2^40:=jU (n:=m+n) (by rw[Nat.pow_add];exact Nat.mul_lt_mul'' hr.1 hq.2) aa
 refine bJ hT lE hm Sr rfl aV rfl 60 aff (fun _=>?_) K pre
 simp only[ag.all,au,bne_iff_ne,ne_eq,bne_eq_false_iff_eq]
 refine⟨⟨aa,aa,aa,aa⟩,fun hs=>⟨fun hl=>bU ?_,fun hl=>bU ?_⟩,fun hs=>⟨aa,⟨aa,aa,a3,b3⟩,fun hd=>⟨⟨aa,aa,a1,b1⟩,aa,fun hc=>bU ?_,fun hc=>bU ?_⟩,fun hd=>⟨aa,fun hp=>⟨hp,fun hp2=>?_,fun hp2=>⟨⟨aa,aa,a1,b2,aa,aa,b1,a2,m1,m2⟩,aa,fun hc=>bU ?_,fun hc=>bU ?_⟩⟩,fun hp=>⟨hp,fun h=>by simp at h,fun _=>⟨⟨aa,aa,a1,b2,aa,aa,b1,a2,m1,m2⟩,aa,fun hc=>bU ?_,fun hc=>bU ?_⟩⟩⟩⟩⟩
 ·rw[zP hs,if_pos (of_decide_eq_true hl)]
 ·rw[zP hs,if_neg (of_decide_eq_false hl)]
 ·have hd:=of_decide_eq_true hd
  have e:q.den=r.den:=by split at hd<;>split at hd<;>omega
  rw[nw hs,if_pos (of_decide_eq_true hc),e,GI aa,yH]
 ·have hd:=of_decide_eq_true hd
  have e:q.den=r.den:=by split at hd<;>split at hd<;>omega
  rw[nw hs,if_neg (of_decide_eq_false hc),e,GI aa]
 ·have hp2:=jt hp2
  obtain⟨q1,q2⟩:=oQ hp
  obtain⟨r1,r2⟩:=oQ hp2
  rw[if_pos hp,if_pos hp2,if_pos hp2,if_pos hp,(nC q1 r2).1,(nC r1 q2).1]
  have hcs:=nw hs
  generalize q.num.natAbs*r.den=X at*
  generalize r.num.natAbs*q.den=Y at*
  unfold cV at hcs
  refine⟨fun h1=>⟨aa,fun hc=>bU ?_,fun hc=>bU ?_⟩,fun h1=>⟨fun h2=>⟨aa,fun hc=>bU ?_,fun hc=>bU ?_⟩,fun h2=>⟨aa,fun hc=>bU ?_,fun hc=>bU ?_⟩⟩⟩
  all_goals rw[hcs]
  ·rw[if_pos (of_decide_eq_true hc),if_pos (by have:=of_decide_eq_true h1;omega)];rfl
  ·rw[if_neg (of_decide_eq_false hc),if_pos (by have:=of_decide_eq_true h1;omega)]
  ·rw[if_pos (of_decide_eq_true hc),if_neg (by have:=of_decide_eq_false h1;omega),if_pos (by have:=of_decide_eq_true h2;omega)]
  ·rw[if_neg (of_decide_eq_false hc),if_neg (by have:=of_decide_eq_false h1;omega),if_pos (by have:=of_decide_eq_true h2;omega)]
  ·rw[if_pos (of_decide_eq_true hc),if_neg (by have:=of_decide_eq_false h1;omega),if_neg (by have:=of_decide_eq_false h2;omega)];rfl
  ·rw[if_neg (of_decide_eq_false hc),if_neg (by have:=of_decide_eq_false h1;omega),if_neg (by have:=of_decide_eq_false h2;omega)]
 ·rw[nw hs,if_pos (of_decide_eq_true hc),yH]
 ·rw[nw hs,if_neg (of_decide_eq_false hc)]
 ·rw[nw hs,if_pos (of_decide_eq_true hc),yH]
 ·rw[nw hs,if_neg (of_decide_eq_false hc)]
theorem UH:aY P LN 79:=by
 refine cJ fun K args r hk hs _=>?_
 split at hs
 ·simp only[ax]at hs
  subst hs
  exact fun need=>Aw need.1 need.2 K [] trivial
 ·simp at hs
theorem TE:aY P Cm.2 Cm.1:=Qj
theorem v7:aZ P GA:=aE Sm (aE UH (aE TE (aE adO (aE MK (aE ES bA)))))
section ops
variable {q r:Rat} {n m:Nat}
theorem MI (hn:n<2^42) (hm':m<2^42) (K:Nat):aO P 91 K [.rat q n,.rat r m] [] (aI (.rat (q+r) (n+m+1)) []):=by
 refine bJ hT v7 hm aeb rfl aV rfl 60 aeJ (fun _=>?_) K []
 simp only[ag.all,au,kB]
 exact⟨⟨aa,aa,aa,hn,hm',aa⟩,aa,.refl _⟩
theorem ab1 (r:Rat):sQ (!decide (r<0)) r.num.natAbs r.den=-r:=by
 have h:=kB r
 conv=>rhs;rw[<-h]
 unfold sQ
 rw[Rat.neg_mkRat]
 congr 1
 unfold gd
 by_cases h:r<0<;>simp[h]
theorem GJ (hn:n<2^42) (hm':m<2^42) (K:Nat):aO P 38 K [.rat q n,.rat r m] [] (aI (.rat (q-r) (n+m+1)) []):=by
 refine bJ hT v7 hm ab7 rfl aV rfl 60 Zs (fun _=>?_) K []
 simp only[ag.all,au,ab1]
 exact⟨⟨aa,aa,aa,hn,hm',aa⟩,aa,dM (by rw[Rat.sub_eq_add_neg])⟩
def bW (q r:Rat):Rat:=if r<q then r else q
def bX (q r:Rat):Rat:=if q<r then r else q
theorem qF {q r:Rat}:cZ q r<0↔q<r:=by unfold cZ;grind
theorem rS {q r:Rat}:cZ q r>0↔r<q:=by unfold cZ;grind
theorem F6 (hn:n<2^42) (hm':m<2^42) (K:Nat):aO P 78 K [.rat q n,.rat r m] [] (aI (.rat (bW q r) (max n m)) []):=by
 refine bJ hT v7 hm Xx rfl aV rfl 60 acy (fun _=>?_) K []
 simp only[ag.all,au,bz,bF,qF]
 refine⟨⟨aa,aa,hm',hn⟩,fun h=>⟨⟨aa,aa⟩,⟨aa,aa,aa⟩,aa,?_⟩,fun h=>⟨⟨aa,aa,aa⟩,aa,?_⟩⟩
 ·unfold bW;rw[if_pos h];exact fC (Nat.le_max_right _ _)
 ·unfold bW;rw[if_neg h];exact fC (Nat.le_max_left _ _)
theorem HS (hn:n<2^42) (hm':m<2^42) (K:Nat):aO P 77 K [.rat q n,.rat r m] [] (aI (.rat (bX q r) (max n m)) []):=by
 refine bJ hT v7 hm ae9 rfl aV rfl 60 abf (fun _=>?_) K []
 simp only[ag.all,au,bz,bF,rS]
 refine⟨⟨aa,aa,hm',hn⟩,fun h=>⟨⟨aa,aa⟩,⟨aa,aa,aa⟩,aa,?_⟩,fun h=>⟨⟨aa,aa,aa⟩,aa,?_⟩⟩
 ·unfold bX;rw[if_pos h];exact fC (Nat.le_max_right _ _)
 ·unfold bX;rw[if_neg h];exact fC (Nat.le_max_left _ _)
theorem abc {n:Int}:sQ (decide (n<0)) n.natAbs 1=(n:Rat):=by
 unfold sQ
 have:gd (decide (n<0)) n.natAbs=n:=by unfold gd;by_cases h:n<0<;>simp[h]<;>omega
 rw[this,Rat.mkRat_one]
theorem Dx {n:Int}:Sz (n:Rat) (max 1 (bO n.natAbs)):=by
 refine⟨?_,?_⟩
 ·rw[Rat.num_intCast]
  exact Nat.lt_of_lt_of_le (j5.1 bq) (Nat.pow_le_pow_right aa (Nat.le_max_right _ _))
 ·rw[Rat.den_intCast]
  exact Nat.lt_of_lt_of_le (show 1<2^1 by omega) (Nat.pow_le_pow_right aa (Nat.le_max_left _ _))
theorem KR {n:Int} (h1:-2^63<=n) (h2:n<2^63) (K:Nat):aO P 34 K [.int .i64 n] [] (aI (.rat (n:Rat) (max 1 (bO n.natAbs))) []):=by
 refine bJ hT v7 hm X8 rfl aV rfl 60 ZG (fun _=>?_) K []
 simp only[ag.all,au,abc]
 exact⟨⟨h1,h2,jU (n:=64) aa aa,by decide,aa⟩,aa,er rfl Dx⟩
theorem Lv (hn:n<2^42) (hm':m<2^42) (K:Nat):aO P 92 K [.rat q n,.rat r m] [] (aI (.rat (q*r) (n+m)) []):=by
 refine j8 fun⟨hq,hr,_⟩=>?_
 have hq:Sz q n:=hq
 have hr:Sz r m:=hr
 obtain⟨a1,a2,a3⟩:=Sz.jV hq aa
 obtain⟨b1,b2,b3⟩:=Sz.jV hr aa
 have d1:=q.den_nz
 have d2:=r.den_nz
 have m1:nl (q.num.natAbs*r.num.natAbs)<2^40:=jU (n:=n+m) (by rw[Nat.pow_add];exact Nat.mul_lt_mul'' hq.1 hr.1) aa
 have m2:nl (q.den*r.den)<2^40:=jU (n:=n+m) (by rw[Nat.pow_add];exact Nat.mul_lt_mul'' hq.2 hr.2) aa
 have hz:=hq.mul hr
 have hv:sQ (decide (q<0)!=decide (r<0)) (q.num.natAbs*r.num.natAbs) (q.den*r.den)=q*r:=by rw[<-BQ,kB,kB]
 have hzero:q=0\/r=0->bg (.agg [.bool false,.mag 0,.mag 0]) (.rat (q*r) (n+m)):=by
  intro h
  have e:q*r=0:=by rcases h with h|h<;>subst h<;>simp
  obtain⟨k,hk⟩:∃k,n+m=k+1:=⟨n+m-1,by have:=hq.pos;omega⟩
  rw[e,hk];exact mT
 refine bJ hT lE hm ac6 rfl aV rfl 60 Yu (fun _=>?_) K []
 have hlong:(ag.aj
         [(0:Nat)<1,(0:Nat)<1,(0:Nat)<1,(0:Nat)<1,nl q.num.natAbs<2^40,nl r.num.natAbs<2^40,(0:Nat)<1,(0:Nat)<1,nl q.den<2^40,nl r.den<2^40,nl (q.num.natAbs*r.num.natAbs)<2^40,nl (q.den*r.den)<2^40,(0:Nat)<1]
         (ag.aj [(0:Nat)<1]
          (ag.leaf ak.ret
           [AV.rat (sQ (decide (q<0)!=decide (r<0)) (q.num.natAbs*r.num.natAbs) (q.den*r.den))
             (dj (sQ (decide (q<0)!=decide (r<0)) (q.num.natAbs*r.num.natAbs) (q.den*r.den)))]))).all fun _ us=>fz us (.rat (q*r) (n+m)):=by
  simp only[ag.all,au]
  exact⟨⟨aa,aa,aa,aa,a1,b1,aa,aa,a2,b2,m1,m2,aa⟩,aa,er hv hz⟩
 refine⟨fun hb=>⟨⟨show 0<1 by omega,hb⟩,fun _=>⟨show 0<1 by omega,show 0<1 by omega,hzero (.inl ?_)⟩,fun h=>by simp at h⟩,fun hb=>⟨⟨show 0<1 by omega,hb,show 0<1 by omega⟩,fun hc=>⟨show 0<1 by omega,show 0<1 by omega,hzero (.inr ?_)⟩,fun hc=>⟨show 0<1 by omega,fun h1=>⟨show 0<1 by omega,fun h2=>?_,fun h2=>hlong⟩,fun h1=>hlong⟩⟩⟩
 ·have:=eq_of_beq hb
  exact nK.1 (jX.1 aa)
 ·have:=eq_of_beq (iD hc)
  exact nK.1 (jX.1 aa)
 ·obtain⟨q1,q2⟩:=oQ h1
  obtain⟨r1,r2⟩:=oQ h2
  obtain⟨wx,bx⟩:=nC q1 r1
  obtain⟨wd,bd⟩:=nC q2 r2
  have hd0:q.den*r.den≠0:=Nat.mul_ne_zero d1 d2
  rw[if_pos h1,if_pos h2,if_pos h1,if_pos h2,wx,wd]
  simp only[ag.all,au,bw]
  exact⟨⟨aa,aa,aa,aa,aa⟩,aa,er hv hz⟩
theorem Ar (q r:Rat) (hr:r≠0):sQ (decide (q<0)!=decide (r<0)) (q.num.natAbs*r.den) (q.den*r.num.natAbs)=q/r:=by
 have hn:r.num≠0:=fun h=>hr (Rat.num_eq_zero.1 h)
 have hi:r⁻¹=sQ (decide (r<0)) r.den r.num.natAbs:=by
  rw[<-kB r⁻¹]
  have e1:r⁻¹.num.natAbs=r.den:=by rw[Rat.num_inv,Int.natAbs_mul,Int.natAbs_natCast,Int.natAbs_sign_of_ne_zero hn,Nat.one_mul]
  have e2:r⁻¹.den=r.num.natAbs:=by rw[Rat.den_inv,if_neg hn]
  have e3:decide (r⁻¹<0)=decide (r<0):=by
   rw[decide_eq_decide,iZ,iZ,Rat.num_inv]
   have hd:=r.den_nz
   have hd':(0:Int)<(r.den:Int):=aa
   rcases Int.lt_trichotomy r.num 0 with h|h|h
   ·rw[Int.sign_eq_neg_one_of_neg h];omega
   ·exact absurd h hn
   ·rw[Int.sign_eq_one_of_pos h];omega
  rw[e1,e2,e3]
 rw[Rat.div_def,hi]
 conv=>rhs;rw[<-kB q]
 rw[BQ]
theorem u7 (hn:n<2^42) (hm':m<2^42) (K:Nat):aO P 37 K [.rat q n,.rat r m] [] (aI (.tuple [.rat (q/r) (n+m),.int .i64 (if r=0 then 3 else 0)]) []):=by
 refine j8 fun⟨hq,hr,_⟩=>?_
 have hq:Sz q n:=hq
 have hr:Sz r m:=hr
 obtain⟨a1,a2,a3⟩:=Sz.jV hq aa
 obtain⟨b1,b2,b3⟩:=Sz.jV hr aa
 have d1:=q.den_nz
 have d2:=r.den_nz
 have m1:nl (q.num.natAbs*r.den)<2^40:=jU (n:=n+m) (by rw[Nat.pow_add];exact Nat.mul_lt_mul'' hq.1 hr.2) aa
 have m2:nl (q.den*r.num.natAbs)<2^40:=jU (n:=n+m) (by rw[Nat.pow_add];exact Nat.mul_lt_mul'' hq.2 hr.1) aa
 have hz:=hq.div hr
 have sg:∀{x:Rat},eE x=0↔x=0:=by intro x;unfold eE;grind
 refine bJ hT lE hm Tj rfl aV rfl 60 W9 (fun _=>?_) K []
 refine⟨⟨show 0<1 by omega,show m<2^44 by omega⟩,fun hb=>⟨show 0<1 by omega,show 0<1 by omega,?_,?_,trivial⟩,fun hb=>⟨show 0<1 by omega,?_⟩⟩
 ·have h0:r=0:=sg.1 (eq_of_beq hb)
  have e:q/r=0:=by rw[h0,Rat.div_def,Rat.inv_zero,Rat.mul_zero]
  obtain⟨k,hk⟩:∃k,n+m=k+1:=⟨n+m-1,by have:=hq.pos;omega⟩
  rw[e,hk];exact mT
 ·have h0:r=0:=sg.1 (eq_of_beq hb)
  exact bU (by rw[if_pos h0])
 have h0:r≠0:=fun h=>by
  rw[h]at hb
  simp[eE]at hb
 have hv:=Ar q r h0
 have he:bg (.int .i64 0) (.int .i64 (if r=0 then 3 else 0)):=bU (by rw[if_neg h0])
 have hlong:(ag.aj
         [(0:Nat)<1,(0:Nat)<1,(0:Nat)<1,(0:Nat)<1,nl q.num.natAbs<2^40,nl r.den<2^40,(0:Nat)<1,(0:Nat)<1,nl q.den<2^40,nl r.num.natAbs<2^40,nl (q.num.natAbs*r.den)<2^40,nl (q.den*r.num.natAbs)<2^40,(0:Nat)<1]
         (ag.aj [(0:Nat)<1]
          (ag.leaf ak.ret
           [AV.rat (sQ (decide (q<0)!=decide (r<0)) (q.num.natAbs*r.den) (q.den*r.num.natAbs))
             (dj (sQ (decide (q<0)!=decide (r<0)) (q.num.natAbs*r.den) (q.den*r.num.natAbs))),.int .i64 0]))).all fun _ us=>fz us (.tuple [.rat (q/r) (n+m),.int .i64 (if r=0 then 3 else 0)]):=by
  simp only[ag.all,au]
  exact⟨⟨aa,aa,aa,aa,a1,b2,aa,aa,a2,b1,m1,m2,aa⟩,aa,er hv hz,he,trivial⟩
 refine⟨fun h1=>⟨show 0<1 by omega,fun h2=>?_,fun h2=>hlong⟩,fun h1=>hlong⟩
 obtain⟨q1,q2⟩:=oQ h1
 obtain⟨r1,r2⟩:=oQ h2
 obtain⟨wx,bx⟩:=nC q1 r2
 obtain⟨wd,bd⟩:=nC q2 r1
 have hr0:r.num.natAbs≠0:=fun h=>h0 (nK.1 h)
 have hd0:q.den*r.num.natAbs≠0:=Nat.mul_ne_zero d1 hr0
 rw[if_pos h1,if_pos h2,if_pos h1,if_pos h2,wx,wd]
 simp only[ag.all,au,bw]
 exact⟨⟨aa,aa,aa,aa,aa⟩,aa,er hv hz,he,trivial⟩
end ops
def IZ:Spec:=bY fun l=>match l with
 |[.int .i64 n]=>some (aI (.rat (n:Rat) (max 1 (bO n.natAbs))) [-2^63<=n,n<2^63])
 |_=>none
theorem Pe:aY P IZ 34:=by
 refine cJ fun K args r hk hs _=>?_
 split at hs
 ·simp only[ax]at hs
  subst hs
  exact fun need=>KR need.1 need.2 K trivial
 ·simp at hs
end Go.Am.B
