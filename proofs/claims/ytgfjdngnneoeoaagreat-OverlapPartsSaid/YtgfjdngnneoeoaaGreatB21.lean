/- rational.Add, Sub, Mul, Quo, Cmp, Min, Max, Int. -/
import Derived.Test.YtgfjdngnneoeoaaGreatB20
set_option linter.unusedVariables false
namespace Go.Am.B
open Go Go.Am.N AV Proofs.Tryz IntKind
theorem aaR:aX 91 f91:=aM func91
theorem Tr:aX 38 f38:=aM func38
theorem Zz:aX 78 f78:=aM func78
theorem TB:aX 77 f77:=aM func77
theorem P3:aX 34 f34:=aM func34
def NU:Spec:=bX fun l=>match l with
 |[.rat q n,.rat r m,.bool s]=>some (aH (.rat (q+sQ s r.num.natAbs r.den) (n+m+1)) [n<2^42,m<2^42])
 |_=>none
def Mm:Spec:=bX fun l=>match l with
 |[.rat q n,.rat r m]=>some (aH (.int .i64 (dn q r)) [n<2^42,m<2^42])
 |_=>none
abbrev BU:FuncId×Spec:=(128,NZ)
def GA:aV:=(89,NU)::(79,Mm)::BU::(81,GX)::(82,Dr)::(80,A6)::[]
theorem ZZ {q r:Rat} {n m:Nat}:bF T GA [] 60 f91 (aF f91) ⟨aS 0 [.rat q n,.rat r m],[],0⟩=
  let c1:Prop:=0<1;some (ag.aj [c1,c1,c1,n<2^42,m<2^42,c1] (ag.aj [c1] (ag.leaf aq.ret [rat (q+sQ (decide (r<0)) r.num.natAbs r.den) (n+m+1)]))):=ah
theorem abg {q r:Rat} {n m:Nat}:bF T GA [] 60 f38 (aF f38) ⟨aS 0 [.rat q n,.rat r m],[],0⟩=
  let c1:Prop:=0<1;some (ag.aj [c1,c1,c1,n<2^42,m<2^42,c1] (ag.aj [c1] (ag.leaf aq.ret [rat (q+sQ (!decide (r<0)) r.num.natAbs r.den) (n+m+1)]))):=ah
theorem Wh {q r:Rat} {n m:Nat}:bF T GA [8] 60 f78 (aF f78) ⟨aS 0 [.rat q n,.rat r m],[],0⟩=
  let c1:Prop:=0<1;some (ag.aj [c1,c1,m<2^42,n<2^42] (ag.fork (decide (dn r q<0)) (ag.aj [c1,c1] (ag.aj [c1,m<2^44,c1] (ag.aj [c1] (ag.leaf aq.ret [rat r m])))) (ag.aj [c1,n<2^44,c1] (ag.aj [c1] (ag.leaf aq.ret [rat q n]))))):=ah
theorem aeh {q r:Rat} {n m:Nat}:bF T GA [8] 60 f77 (aF f77) ⟨aS 0 [.rat q n,.rat r m],[],0⟩=
  let c1:Prop:=0<1;some (ag.aj [c1,c1,m<2^42,n<2^42] (ag.fork (decide (dn r q>0)) (ag.aj [c1,c1] (ag.aj [c1,m<2^44,c1] (ag.aj [c1] (ag.leaf aq.ret [rat r m])))) (ag.aj [c1,n<2^44,c1] (ag.aj [c1] (ag.leaf aq.ret [rat q n]))))):=ah
theorem Sg {n:Int}:bF T GA [] 60 f34 (aF f34) ⟨aS 0 [.int .i64 n],[],0⟩=
  let c1:Rat:=sQ (decide (n<0)) n.natAbs 1;some (ag.aj [-(2:Int)^63<=n,n<2^63,nl n.natAbs<2^40,nl 1<2^40,(0:Nat)<1] (ag.aj [(0:Nat)<1] (ag.leaf aq.ret [rat c1 (dr c1)]))):=ah
theorem aii {q r:Rat} {n m:Nat}:bF T GQ [20,23,34,47,49,56,63,76] 60 f79 (aF f79) ⟨aS 0 [.rat q n,.rat r m],[],0⟩=
  let c14:ag (List AV):=ag.leaf aq.ret [int .i64 (0:Int)];let c13:Nat:=q.num.natAbs;let c12:Nat:=r.num.natAbs;let c11:ag (List AV):=ag.leaf aq.ret [int .i64 (1:Int)];let c10:Bool:=decide (q<0);let c9:ag (List AV):=ag.leaf aq.ret [int .i64 (-1:Int)];let c8:Nat:=if r.den=1 then 0 else r.den;let c7:Nat:=if q.den=1 then 0 else q.den;let c6:Nat:=2^40;let c5:Prop:=0<1;let c15:Int:=cY (c13*r.den) (c12*q.den);let c4:Int:=u64.wrap ((↑(if eG q=true then c13 else 0):Int)*(↑(if eG r=true then r.den else 0):Int));let c3:Int:=u64.wrap ((↑(if eG r=true then c12 else 0):Int)*(↑(if eG q=true then q.den else 0):Int));let c2:ag (List AV):=ag.aj [c5,c5,nl c13<c6,nl r.den<c6,c5,c5,nl c12<c6,nl q.den<c6,nl (c13*r.den)<c6,nl (c12*q.den)<c6] (ag.aj [c5] (ag.fork c10 (ag.leaf aq.ret [int .i64 (i64.wrap ((0:Int)-c15))]) (ag.leaf aq.ret [int .i64 c15])));let c1:ag (List AV):=ag.fork (decide (c4<c3)) (ag.aj [c5] (ag.fork c10 c11 c9)) (ag.fork (decide (c4>c3)) (ag.aj [c5] (ag.fork c10 c9 c11)) (ag.aj [c5] (ag.fork c10 c14 c14)));some (ag.aj [c5,n<2^44,c5,m<2^44] (ag.fork (eO q !=eO r) (ag.fork (decide (eO q<eO r)) c9 c11) (ag.aj [c5] (ag.aj [c5,c5,nl c7<c6,nl c8<c6] (ag.fork (decide (c7=c8)) (ag.aj [c5,c5,nl c13<c6,nl c12<c6] (ag.aj [c5] (ag.fork c10 (ag.leaf aq.ret [int .i64 (i64.wrap ((0:Int)-cY c13 c12))]) (ag.leaf aq.ret [int .i64 (cY c13 c12)])))) (ag.aj [c5] (ag.fork (eG q) (ag.aj [eG q=true] (ag.fork (bif true then eG r else false) c1 c2)) (ag.aj [eG q=false] (ag.fork false c1 c2))))))))):=ah
theorem ahF:bf P NU 89:=by
 refine cM fun K args r hk hs _=>?_
 split at hs
 ·simp only[ax]at hs
  subst hs
  exact fun need=>UT need.1 need.2 K [] trivial
 ·simp at hs
theorem As {q r:Rat} (h:eO q≠eO r):dn q r=if eO q<eO r then-1 else 1:=by
 unfold eO dn at*
 grind
theorem Sa {a b:Nat}:-cY a b=cY b a:=by unfold cY;split<;>split<;>omega
theorem JH {a b k:Nat} (hk:0<k):cY (a*k) (b*k)=cY a b:=by
 unfold cY
 simp only[Nat.mul_lt_mul_right hk]
theorem yc {a b:Nat}:i64.wrap (0-cY a b)=-cY a b:=by
 have:cY a b=-1\/cY a b=0\/cY a b=1:=by unfold cY;split;exact .inl rfl;split;exact .inr (.inr rfl);exact .inr (.inl rfl)
 rcases this with h|h|h<;>rw[h]<;>rfl
theorem oz {q r:Rat} (h:eO q=eO r):dn q r=if q<0 then-cY (q.num.natAbs*r.den) (r.num.natAbs*q.den)else cY (q.num.natAbs*r.den) (r.num.natAbs*q.den):=by
 have h1:q<0↔r<0:=by unfold eO at h;grind
 have e1:∀{a b:Nat},(-(a:Int))*(b:Int)=-((a*b:Nat):Int):=fun {a b}=>by simp[Int.neg_mul]
 have e2:∀{a b:Nat},(a:Int)*(b:Int)=((a*b:Nat):Int):=fun {a b}=>by simp
 unfold dn
 by_cases hq:q<0
 ·have hr:=h1.1 hq
  have q1:q.num=-(q.num.natAbs:Int):=by have:=jv.1 hq;omega
  have r1:r.num=-(r.num.natAbs:Int):=by have:=jv.1 hr;omega
  have l1:q<r↔r.num.natAbs*q.den<q.num.natAbs*r.den:=by
   rw[Rat.lt_iff]
   conv=>lhs;rw[q1,r1,e1,e1]
   omega
  have l2:r<q↔q.num.natAbs*r.den<r.num.natAbs*q.den:=by
   rw[Rat.lt_iff]
   conv=>lhs;rw[q1,r1,e1,e1]
   omega
  rw[if_pos hq,Sa]
  unfold cY
  simp only[l1,l2]
 ·have hr:¬r<0:=fun h=>hq (h1.2 h)
  have q1:q.num=(q.num.natAbs:Int):=by have:¬q.num<0:=fun h=>hq (jv.2 h);omega
  have r1:r.num=(r.num.natAbs:Int):=by have:¬r.num<0:=fun h=>hr (jv.2 h);omega
  have l1:q<r↔q.num.natAbs*r.den<r.num.natAbs*q.den:=by
   rw[Rat.lt_iff]
   conv=>lhs;rw[q1,r1,e2,e2]
   omega
  have l2:r<q↔r.num.natAbs*q.den<q.num.natAbs*r.den:=by
   rw[Rat.lt_iff]
   conv=>lhs;rw[q1,r1,e2,e2]
   omega
  rw[if_neg hq]
  unfold cY
  simp only[l1,l2]
theorem CM {q r:Rat} {n m:Nat} (hn:n<2^42) (hm':m<2^42) (K:Nat) (pre:aD):aN P 79 K [.rat q n,.rat r m] pre (aH (.int .i64 (dn q r)) []):=by
 refine kP fun⟨hq,hr,_⟩=>?_
 have hq:Sz q n:=hq
 have hr:Sz r m:=hr
 obtain⟨a1,a2,a3⟩:=Sz.kq hq aa
 obtain⟨b1,b2,b3⟩:=Sz.kq hr aa
 have d1:=q.den_nz
 have d2:=r.den_nz
 have m1:nl (q.num.natAbs*r.den)<2^40:=j4 (n:=n+m) (by rw[Nat.pow_add];exact Nat.mul_lt_mul'' hq.1 hr.2) aa
 have m2:nl (r.num.natAbs*q.den)<2^40:=j4 (n:=m+n) (by rw[Nat.pow_add];exact Nat.mul_lt_mul'' hr.1 hq.2) aa
 refine bM hT lI hm aek rfl aW rfl 60 aii (fun _=>?_) K pre
 simp only[ag.all,au,bne_iff_ne,ne_eq,bne_eq_false_iff_eq]
 refine⟨⟨aa,aa,aa,aa⟩,fun hs=>⟨fun hl=>bW ?_,fun hl=>bW ?_⟩,fun hs=>⟨aa,⟨aa,aa,a3,b3⟩,fun hd=>⟨⟨aa,aa,a1,b1⟩,aa,fun hc=>bW ?_,fun hc=>bW ?_⟩,fun hd=>⟨aa,fun hp=>⟨hp,fun hp2=>?_,fun hp2=>⟨⟨aa,aa,a1,b2,aa,aa,b1,a2,m1,m2⟩,aa,fun hc=>bW ?_,fun hc=>bW ?_⟩⟩,fun hp=>⟨hp,fun h=>by simp at h,fun _=>⟨⟨aa,aa,a1,b2,aa,aa,b1,a2,m1,m2⟩,aa,fun hc=>bW ?_,fun hc=>bW ?_⟩⟩⟩⟩⟩
 ·rw[As hs,if_pos (of_decide_eq_true hl)]
 ·rw[As hs,if_neg (of_decide_eq_false hl)]
 ·have hd:=of_decide_eq_true hd
  have e:q.den=r.den:=by split at hd<;>split at hd<;>omega
  rw[oz hs,if_pos (of_decide_eq_true hc),e,JH aa,yc]
 ·have hd:=of_decide_eq_true hd
  have e:q.den=r.den:=by split at hd<;>split at hd<;>omega
  rw[oz hs,if_neg (of_decide_eq_false hc),e,JH aa]
 ·have hp2:=jC hp2
  obtain⟨q1,q2⟩:=pO hp
  obtain⟨r1,r2⟩:=pO hp2
  rw[if_pos hp,if_pos hp2,if_pos hp2,if_pos hp,(nN q1 r2).1,(nN r1 q2).1]
  have hcs:=oz hs
  generalize q.num.natAbs*r.den=X at*
  generalize r.num.natAbs*q.den=Y at*
  unfold cY at hcs
  refine⟨fun h1=>⟨aa,fun hc=>bW ?_,fun hc=>bW ?_⟩,fun h1=>⟨fun h2=>⟨aa,fun hc=>bW ?_,fun hc=>bW ?_⟩,fun h2=>⟨aa,fun hc=>bW ?_,fun hc=>bW ?_⟩⟩⟩
  all_goals rw[hcs]
  ·rw[if_pos (of_decide_eq_true hc),if_pos (by have:=of_decide_eq_true h1;omega)];rfl
  ·rw[if_neg (of_decide_eq_false hc),if_pos (by have:=of_decide_eq_true h1;omega)]
  ·rw[if_pos (of_decide_eq_true hc),if_neg (by have:=of_decide_eq_false h1;omega),if_pos (by have:=of_decide_eq_true h2;omega)]
  ·rw[if_neg (of_decide_eq_false hc),if_neg (by have:=of_decide_eq_false h1;omega),if_pos (by have:=of_decide_eq_true h2;omega)]
  ·rw[if_pos (of_decide_eq_true hc),if_neg (by have:=of_decide_eq_false h1;omega),if_neg (by have:=of_decide_eq_false h2;omega)];rfl
  ·rw[if_neg (of_decide_eq_false hc),if_neg (by have:=of_decide_eq_false h1;omega),if_neg (by have:=of_decide_eq_false h2;omega)]
 ·rw[oz hs,if_pos (of_decide_eq_true hc),yc]
 ·rw[oz hs,if_neg (of_decide_eq_false hc)]
 ·rw[oz hs,if_pos (of_decide_eq_true hc),yc]
 ·rw[oz hs,if_neg (of_decide_eq_false hc)]
theorem afP:bf P Mm 79:=by
 refine cM fun K args r hk hs _=>?_
 split at hs
 ·simp only[ax]at hs
  subst hs
  exact fun need=>CM need.1 need.2 K [] trivial
 ·simp at hs
theorem RW:bf P BU.2 BU.1:=aec
theorem u9:bg P GA:=aE ahF (aE afP (aE RW (aE Yk (aE FK (aE GF bD)))))
section ops
variable {q r:Rat} {n m:Nat}
theorem MM (hn:n<2^42) (hm':m<2^42) (K:Nat):aN P 91 K [.rat q n,.rat r m] [] (aH (.rat (q+r) (n+m+1)) []):=by
 refine bM hT u9 hm aaR rfl aW rfl 60 ZZ (fun _=>?_) K []
 simp only[ag.all,au,kJ]
 exact⟨⟨aa,aa,aa,hn,hm',aa⟩,aa,.refl _⟩
theorem afI (r:Rat):sQ (!decide (r<0)) r.num.natAbs r.den=-r:=by
 have h:=kJ r
 conv=>rhs;rw[<-h]
 unfold sQ
 rw[Rat.neg_mkRat]
 congr 1
 unfold gl
 by_cases h:r<0<;>simp[h]
theorem ME (hn:n<2^42) (hm':m<2^42) (K:Nat):aN P 38 K [.rat q n,.rat r m] [] (aH (.rat (q-r) (n+m+1)) []):=by
 refine bM hT u9 hm Tr rfl aW rfl 60 abg (fun _=>?_) K []
 simp only[ag.all,au,afI]
 exact⟨⟨aa,aa,aa,hn,hm',aa⟩,aa,dX (by rw[Rat.sub_eq_add_neg])⟩
def cr (q r:Rat):Rat:=if r<q then r else q
def cq (q r:Rat):Rat:=if q<r then r else q
theorem oD {q r:Rat}:dn q r<0↔q<r:=by unfold dn;grind
theorem qW {q r:Rat}:dn q r>0↔r<q:=by unfold dn;grind
theorem JL (hn:n<2^42) (hm':m<2^42) (K:Nat):aN P 78 K [.rat q n,.rat r m] [] (aH (.rat (cr q r) (max n m)) []):=by
 refine bM hT u9 hm Zz rfl aW rfl 60 Wh (fun _=>?_) K []
 simp only[ag.all,au,bz,bG,oD]
 refine⟨⟨aa,aa,hm',hn⟩,fun h=>⟨⟨aa,aa⟩,⟨aa,aa,aa⟩,aa,?_⟩,fun h=>⟨⟨aa,aa,aa⟩,aa,?_⟩⟩
 ·unfold cr;rw[if_pos h];exact eE (Nat.le_max_right _ _)
 ·unfold cr;rw[if_neg h];exact eE (Nat.le_max_left _ _)
theorem E6 (hn:n<2^42) (hm':m<2^42) (K:Nat):aN P 77 K [.rat q n,.rat r m] [] (aH (.rat (cq q r) (max n m)) []):=by
 refine bM hT u9 hm TB rfl aW rfl 60 aeh (fun _=>?_) K []
 simp only[ag.all,au,bz,bG,qW]
 refine⟨⟨aa,aa,hm',hn⟩,fun h=>⟨⟨aa,aa⟩,⟨aa,aa,aa⟩,aa,?_⟩,fun h=>⟨⟨aa,aa,aa⟩,aa,?_⟩⟩
 ·unfold cq;rw[if_pos h];exact eE (Nat.le_max_right _ _)
 ·unfold cq;rw[if_neg h];exact eE (Nat.le_max_left _ _)
theorem Qq {n:Int}:sQ (decide (n<0)) n.natAbs 1=(n:Rat):=by
 unfold sQ
 have:gl (decide (n<0)) n.natAbs=n:=by unfold gl;by_cases h:n<0<;>simp[h]<;>omega
 rw[this,Rat.mkRat_one]
theorem B0 {n:Int}:Sz (n:Rat) (max 1 (bN n.natAbs)):=by
 refine⟨?_,?_⟩
 ·rw[Rat.num_intCast]
  exact Nat.lt_of_lt_of_le (ki.1 aR) (Nat.pow_le_pow_right aa (Nat.le_max_right _ _))
 ·rw[Rat.den_intCast]
  exact Nat.lt_of_lt_of_le (show 1<2^1 by omega) (Nat.pow_le_pow_right aa (Nat.le_max_left _ _))
theorem Nk {n:Int} (h1:-2^63<=n) (h2:n<2^63) (K:Nat):aN P 34 K [.int .i64 n] [] (aH (.rat (n:Rat) (max 1 (bN n.natAbs))) []):=by
 refine bM hT u9 hm P3 rfl aW rfl 60 Sg (fun _=>?_) K []
 simp only[ag.all,au,Qq]
 exact⟨⟨h1,h2,j4 (n:=64) aa aa,by decide,aa⟩,aa,en rfl B0⟩
theorem ID (hn:n<2^42) (hm':m<2^42) (K:Nat):aN P 92 K [.rat q n,.rat r m] [] (aH (.rat (q*r) (n+m)) []):=by
 refine kP fun⟨hq,hr,_⟩=>?_
 have hq:Sz q n:=hq
 have hr:Sz r m:=hr
 obtain⟨a1,a2,a3⟩:=Sz.kq hq aa
 obtain⟨b1,b2,b3⟩:=Sz.kq hr aa
 have d1:=q.den_nz
 have d2:=r.den_nz
 have m1:nl (q.num.natAbs*r.num.natAbs)<2^40:=j4 (n:=n+m) (by rw[Nat.pow_add];exact Nat.mul_lt_mul'' hq.1 hr.1) aa
 have m2:nl (q.den*r.den)<2^40:=j4 (n:=n+m) (by rw[Nat.pow_add];exact Nat.mul_lt_mul'' hq.2 hr.2) aa
 have hz:=hq.mul hr
 have hv:sQ (decide (q<0)!=decide (r<0)) (q.num.natAbs*r.num.natAbs) (q.den*r.den)=q*r:=by rw[<-CF,kJ,kJ]
 have hzero:q=0\/r=0->bp (.agg [.bool false,.mag 0,.mag 0]) (.rat (q*r) (n+m)):=by
  intro h
  have e:q*r=0:=by rcases h with h|h<;>subst h<;>simp
  obtain⟨k,hk⟩:∃k,n+m=k+1:=⟨n+m-1,by have:=hq.pos;omega⟩
  rw[e,hk];exact k9
 refine bM hT lI hm Vq rfl aW rfl 60 ac2 (fun _=>?_) K []
 have hlong:(ag.aj
         [(0:Nat)<1,(0:Nat)<1,(0:Nat)<1,(0:Nat)<1,nl q.num.natAbs<2^40,nl r.num.natAbs<2^40,(0:Nat)<1,(0:Nat)<1,nl q.den<2^40,nl r.den<2^40,nl (q.num.natAbs*r.num.natAbs)<2^40,nl (q.den*r.den)<2^40,(0:Nat)<1]
         (ag.aj [(0:Nat)<1]
          (ag.leaf aq.ret
           [AV.rat (sQ (decide (q<0)!=decide (r<0)) (q.num.natAbs*r.num.natAbs) (q.den*r.den))
             (dr (sQ (decide (q<0)!=decide (r<0)) (q.num.natAbs*r.num.natAbs) (q.den*r.den)))]))).all fun _ us=>fA us (.rat (q*r) (n+m)):=by
  simp only[ag.all,au]
  exact⟨⟨aa,aa,aa,aa,a1,b1,aa,aa,a2,b2,m1,m2,aa⟩,aa,en hv hz⟩
 refine⟨fun hb=>⟨⟨show 0<1 by omega,hb⟩,fun _=>⟨show 0<1 by omega,show 0<1 by omega,hzero (.inl ?_)⟩,fun h=>by simp at h⟩,fun hb=>⟨⟨show 0<1 by omega,hb,show 0<1 by omega⟩,fun hc=>⟨show 0<1 by omega,show 0<1 by omega,hzero (.inr ?_)⟩,fun hc=>⟨show 0<1 by omega,fun h1=>⟨show 0<1 by omega,fun h2=>?_,fun h2=>hlong⟩,fun h1=>hlong⟩⟩⟩
 ·have:=eq_of_beq hb
  exact nT.1 (j9.1 aa)
 ·have:=eq_of_beq (iM hc)
  exact nT.1 (j9.1 aa)
 ·obtain⟨q1,q2⟩:=pO h1
  obtain⟨r1,r2⟩:=pO h2
  obtain⟨wx,bx⟩:=nN q1 r1
  obtain⟨wd,bd⟩:=nN q2 r2
  have hd0:q.den*r.den≠0:=Nat.mul_ne_zero d1 d2
  rw[if_pos h1,if_pos h2,if_pos h1,if_pos h2,wx,wd]
  simp only[ag.all,au,br]
  exact⟨⟨aa,aa,aa,aa,aa⟩,aa,en hv hz⟩
theorem BC (q r:Rat) (hr:r≠0):sQ (decide (q<0)!=decide (r<0)) (q.num.natAbs*r.den) (q.den*r.num.natAbs)=q/r:=by
 have hn:r.num≠0:=fun h=>hr (Rat.num_eq_zero.1 h)
 have hi:r⁻¹=sQ (decide (r<0)) r.den r.num.natAbs:=by
  rw[<-kJ r⁻¹]
  have e1:r⁻¹.num.natAbs=r.den:=by rw[Rat.num_inv,Int.natAbs_mul,Int.natAbs_natCast,Int.natAbs_sign_of_ne_zero hn,Nat.one_mul]
  have e2:r⁻¹.den=r.num.natAbs:=by rw[Rat.den_inv,if_neg hn]
  have e3:decide (r⁻¹<0)=decide (r<0):=by
   rw[decide_eq_decide,jv,jv,Rat.num_inv]
   have hd:=r.den_nz
   have hd':(0:Int)<(r.den:Int):=aa
   rcases Int.lt_trichotomy r.num 0 with h|h|h
   ·rw[Int.sign_eq_neg_one_of_neg h];omega
   ·exact absurd h hn
   ·rw[Int.sign_eq_one_of_pos h];omega
  rw[e1,e2,e3]
 rw[Rat.div_def,hi]
 conv=>rhs;rw[<-kJ q]
 rw[CF]
theorem uG (hn:n<2^42) (hm':m<2^42) (K:Nat):aN P 37 K [.rat q n,.rat r m] [] (aH (.tuple [.rat (q/r) (n+m),.int .i64 (if r=0 then 3 else 0)]) []):=by
 refine kP fun⟨hq,hr,_⟩=>?_
 have hq:Sz q n:=hq
 have hr:Sz r m:=hr
 obtain⟨a1,a2,a3⟩:=Sz.kq hq aa
 obtain⟨b1,b2,b3⟩:=Sz.kq hr aa
 have d1:=q.den_nz
 have d2:=r.den_nz
 have m1:nl (q.num.natAbs*r.den)<2^40:=j4 (n:=n+m) (by rw[Nat.pow_add];exact Nat.mul_lt_mul'' hq.1 hr.2) aa
 have m2:nl (q.den*r.num.natAbs)<2^40:=j4 (n:=n+m) (by rw[Nat.pow_add];exact Nat.mul_lt_mul'' hq.2 hr.1) aa
 have hz:=hq.div hr
 have sg:∀{x:Rat},eO x=0↔x=0:=by intro x;unfold eO;grind
 refine bM hT lI hm XH rfl aW rfl 60 Yu (fun _=>?_) K []
 refine⟨⟨show 0<1 by omega,show m<2^44 by omega⟩,fun hb=>⟨show 0<1 by omega,show 0<1 by omega,?_,?_,trivial⟩,fun hb=>⟨show 0<1 by omega,?_⟩⟩
 ·have h0:r=0:=sg.1 (eq_of_beq hb)
  have e:q/r=0:=by rw[h0,Rat.div_def,Rat.inv_zero,Rat.mul_zero]
  obtain⟨k,hk⟩:∃k,n+m=k+1:=⟨n+m-1,by have:=hq.pos;omega⟩
  rw[e,hk];exact k9
 ·have h0:r=0:=sg.1 (eq_of_beq hb)
  exact bW (by rw[if_pos h0])
 have h0:r≠0:=fun h=>by
  rw[h]at hb
  simp[eO]at hb
 have hv:=BC q r h0
 have he:bp (.int .i64 0) (.int .i64 (if r=0 then 3 else 0)):=bW (by rw[if_neg h0])
 have hlong:(ag.aj
         [(0:Nat)<1,(0:Nat)<1,(0:Nat)<1,(0:Nat)<1,nl q.num.natAbs<2^40,nl r.den<2^40,(0:Nat)<1,(0:Nat)<1,nl q.den<2^40,nl r.num.natAbs<2^40,nl (q.num.natAbs*r.den)<2^40,nl (q.den*r.num.natAbs)<2^40,(0:Nat)<1]
         (ag.aj [(0:Nat)<1]
          (ag.leaf aq.ret
           [AV.rat (sQ (decide (q<0)!=decide (r<0)) (q.num.natAbs*r.den) (q.den*r.num.natAbs))
             (dr (sQ (decide (q<0)!=decide (r<0)) (q.num.natAbs*r.den) (q.den*r.num.natAbs))),.int .i64 0]))).all fun _ us=>fA us (.tuple [.rat (q/r) (n+m),.int .i64 (if r=0 then 3 else 0)]):=by
  simp only[ag.all,au]
  exact⟨⟨aa,aa,aa,aa,a1,b2,aa,aa,a2,b1,m1,m2,aa⟩,aa,en hv hz,he,trivial⟩
 refine⟨fun h1=>⟨show 0<1 by omega,fun h2=>?_,fun h2=>hlong⟩,fun h1=>hlong⟩
 obtain⟨q1,q2⟩:=pO h1
 obtain⟨r1,r2⟩:=pO h2
 obtain⟨wx,bx⟩:=nN q1 r2
 obtain⟨wd,bd⟩:=nN q2 r1
 have hr0:r.num.natAbs≠0:=fun h=>h0 (nT.1 h)
 have hd0:q.den*r.num.natAbs≠0:=Nat.mul_ne_zero d1 hr0
 rw[if_pos h1,if_pos h2,if_pos h1,if_pos h2,wx,wd]
 simp only[ag.all,au,br]
 exact⟨⟨aa,aa,aa,aa,aa⟩,aa,en hv hz,he,trivial⟩
end ops
def Ol:Spec:=bX fun l=>match l with
 |[.int .i64 n]=>some (aH (.rat (n:Rat) (max 1 (bN n.natAbs))) [-2^63<=n,n<2^63])
 |_=>none
theorem acQ:bf P Ol 34:=by
 refine cM fun K args r hk hs _=>?_
 split at hs
 ·simp only[ax]at hs
  subst hs
  exact fun need=>Nk need.1 need.2 K trivial
 ·simp at hs
end Go.Am.B
