/- rational.Add, Sub, Mul, Quo, Cmp, Min, Max, Int. -/
import Derived.Test.YtolopdkjjlfgjaaGreatB20
set_option linter.unusedVariables false
namespace Go.Am.B
open Go Go.Am.N AV Proofs.Tryz IntKind
theorem OH:aX 128 f128:=aY func128
theorem RH:aX 143 f143:=aY func143
theorem TG:aX 130 f130:=aY func130
theorem abA:aX 131 f131:=aY func131
theorem aaN:aX 71 f71:=aY func71
def Me:Spec:=bR fun l=>match l with
 |[.rat q n,.rat r m,.bool s]=>some (aJ (.rat (q+sQ s r.num.natAbs r.den) (n+m+1)) [n<2^42,m<2^42])
 |_=>none
def JT:Spec:=bR fun l=>match l with
 |[.rat q n,.rat r m]=>some (aJ (.int .i64 (iJ q r)) [n<2^42,m<2^42])
 |_=>none
abbrev EG:FuncId×Spec:=(166,MN)
def GA:bg:=(164,Me)::(58,JT)::EG::(134,I6)::(132,Eo)::(133,BV)::[]
theorem Uw {q r:Rat} {n m:Nat}:bT T GA [] 60 f128 (aG f128) ⟨aS 0 [.rat q n,.rat r m],[],0⟩=
  let c1:Prop:=0<1;some (af.aj [c1,c1,c1,n<2^42,m<2^42,c1] (af.aj [c1] (af.leaf aq.ret [rat (q+sQ (decide (r<0)) r.num.natAbs r.den) (n+m+1)]))):=ag
theorem ad7 {q r:Rat} {n m:Nat}:bT T GA [] 60 f143 (aG f143) ⟨aS 0 [.rat q n,.rat r m],[],0⟩=
  let c1:Prop:=0<1;some (af.aj [c1,c1,c1,n<2^42,m<2^42,c1] (af.aj [c1] (af.leaf aq.ret [rat (q+sQ (!decide (r<0)) r.num.natAbs r.den) (n+m+1)]))):=ag
theorem XF {q r:Rat} {n m:Nat}:bT T GA [8] 60 f130 (aG f130) ⟨aS 0 [.rat q n,.rat r m],[],0⟩=
  let c1:Prop:=0<1;some (af.aj [c1,c1,m<2^42,n<2^42] (af.fork (decide (iJ r q<0)) (af.aj [c1,c1] (af.aj [c1,m<2^44,c1] (af.aj [c1] (af.leaf aq.ret [rat r m])))) (af.aj [c1,n<2^44,c1] (af.aj [c1] (af.leaf aq.ret [rat q n]))))):=ag
theorem ZY {q r:Rat} {n m:Nat}:bT T GA [8] 60 f131 (aG f131) ⟨aS 0 [.rat q n,.rat r m],[],0⟩=
  let c1:Prop:=0<1;some (af.aj [c1,c1,m<2^42,n<2^42] (af.fork (decide (iJ r q>0)) (af.aj [c1,c1] (af.aj [c1,m<2^44,c1] (af.aj [c1] (af.leaf aq.ret [rat r m])))) (af.aj [c1,n<2^44,c1] (af.aj [c1] (af.leaf aq.ret [rat q n]))))):=ag
theorem ab3 {n:Int}:bT T GA [] 60 f71 (aG f71) ⟨aS 0 [.int .i64 n],[],0⟩=
  let c1:Rat:=sQ (decide (n<0)) n.natAbs 1;some (af.aj [-(2:Int)^63<=n,n<2^63,nl n.natAbs<2^40,nl 1<2^40,(0:Nat)<1] (af.aj [(0:Nat)<1] (af.leaf aq.ret [rat c1 (dj c1)]))):=ag
theorem ad1 {q r:Rat} {n m:Nat}:bT T GQ [20,23,34,47,49,56,63,76] 60 f58 (aG f58) ⟨aS 0 [.rat q n,.rat r m],[],0⟩=
  let c14:af (List AV):=af.leaf aq.ret [int .i64 (0:Int)];let c13:Nat:=q.num.natAbs;let c12:Nat:=r.num.natAbs;let c11:af (List AV):=af.leaf aq.ret [int .i64 (1:Int)];let c10:Bool:=decide (q<0);let c9:af (List AV):=af.leaf aq.ret [int .i64 (-1:Int)];let c8:Nat:=if r.den=1 then 0 else r.den;let c7:Nat:=if q.den=1 then 0 else q.den;let c6:Nat:=2^40;let c5:Prop:=0<1;let c15:Int:=cV (c13*r.den) (c12*q.den);let c4:Int:=u64.wrap ((↑(if eE q=true then c13 else 0):Int)*(↑(if eE r=true then r.den else 0):Int));let c3:Int:=u64.wrap ((↑(if eE r=true then c12 else 0):Int)*(↑(if eE q=true then q.den else 0):Int));let c2:af (List AV):=af.aj [c5,c5,nl c13<c6,nl r.den<c6,c5,c5,nl c12<c6,nl q.den<c6,nl (c13*r.den)<c6,nl (c12*q.den)<c6] (af.aj [c5] (af.fork c10 (af.leaf aq.ret [int .i64 (i64.wrap ((0:Int)-c15))]) (af.leaf aq.ret [int .i64 c15])));let c1:af (List AV):=af.fork (decide (c4<c3)) (af.aj [c5] (af.fork c10 c11 c9)) (af.fork (decide (c4>c3)) (af.aj [c5] (af.fork c10 c9 c11)) (af.aj [c5] (af.fork c10 c14 c14)));some (af.aj [c5,n<2^44,c5,m<2^44] (af.fork (dJ q !=dJ r) (af.fork (decide (dJ q<dJ r)) c9 c11) (af.aj [c5] (af.aj [c5,c5,nl c7<c6,nl c8<c6] (af.fork (decide (c7=c8)) (af.aj [c5,c5,nl c13<c6,nl c12<c6] (af.aj [c5] (af.fork c10 (af.leaf aq.ret [int .i64 (i64.wrap ((0:Int)-cV c13 c12))]) (af.leaf aq.ret [int .i64 (cV c13 c12)])))) (af.aj [c5] (af.fork (eE q) (af.aj [eE q=true] (af.fork (bif true then eE r else false) c1 c2)) (af.aj [eE q=false] (af.fork false c1 c2))))))))):=ag
theorem UD:bf P Me 164:=by
 refine cE fun K args r hk hs _=>?_
 split at hs
 ·simp only[ax]at hs
  subst hs
  exact fun need=>Ye need.1 need.2 K [] trivial
 ·simp at hs
theorem AL {q r:Rat} (h:dJ q≠dJ r):iJ q r=if dJ q<dJ r then-1 else 1:=by
 unfold dJ iJ at*
 grind
theorem WE {a b:Nat}:-cV a b=cV b a:=by unfold cV;split<;>split<;>omega
theorem Jo {a b k:Nat} (hk:0<k):cV (a*k) (b*k)=cV a b:=by
 unfold cV
 simp only[Nat.mul_lt_mul_right hk]
theorem AB {a b:Nat}:i64.wrap (0-cV a b)=-cV a b:=by
 have:cV a b=-1\/cV a b=0\/cV a b=1:=by unfold cV;split;exact .inl rfl;split;exact .inr (.inr rfl);exact .inr (.inl rfl)
 rcases this with h|h|h<;>rw[h]<;>rfl
theorem nu {q r:Rat} (h:dJ q=dJ r):iJ q r=if q<0 then-cV (q.num.natAbs*r.den) (r.num.natAbs*q.den)else cV (q.num.natAbs*r.den) (r.num.natAbs*q.den):=by
 have h1:q<0↔r<0:=by unfold dJ at h;grind
 have e1:∀{a b:Nat},(-(a:Int))*(b:Int)=-((a*b:Nat):Int):=fun {a b}=>by simp[Int.neg_mul]
 have e2:∀{a b:Nat},(a:Int)*(b:Int)=((a*b:Nat):Int):=fun {a b}=>by simp
 unfold iJ
 by_cases hq:q<0
 ·have hr:=h1.1 hq
  have q1:q.num=-(q.num.natAbs:Int):=by have:=je.1 hq;omega
  have r1:r.num=-(r.num.natAbs:Int):=by have:=je.1 hr;omega
  have l1:q<r↔r.num.natAbs*q.den<q.num.natAbs*r.den:=by
   rw[Rat.lt_iff]
   conv=>lhs;rw[q1,r1,e1,e1]
   omega
  have l2:r<q↔q.num.natAbs*r.den<r.num.natAbs*q.den:=by
   rw[Rat.lt_iff]
   conv=>lhs;rw[q1,r1,e1,e1]
   omega
  rw[if_pos hq,WE]
  unfold cV
  simp only[l1,l2]
 ·have hr:¬r<0:=fun h=>hq (h1.2 h)
  have q1:q.num=(q.num.natAbs:Int):=by have:¬q.num<0:=fun h=>hq (je.2 h);omega
  have r1:r.num=(r.num.natAbs:Int):=by have:¬r.num<0:=fun h=>hr (je.2 h);omega
  have l1:q<r↔q.num.natAbs*r.den<r.num.natAbs*q.den:=by
   rw[Rat.lt_iff]
   conv=>lhs;rw[q1,r1,e2,e2]
   omega
  have l2:r<q↔r.num.natAbs*q.den<q.num.natAbs*r.den:=by
   rw[Rat.lt_iff]
   conv=>lhs;rw[q1,r1,e2,e2]
   omega
  rw[if_neg hq]
  unfold cV
  simp only[l1,l2]
theorem Fe {q r:Rat} {n m:Nat} (hn:n<2^42) (hm':m<2^42) (K:Nat) (pre:aE):aO P 58 K [.rat q n,.rat r m] pre (aJ (.int .i64 (iJ q r)) []):=by
 refine kE fun⟨hq,hr,_⟩=>?_
 have hq:Sz q n:=hq
 have hr:Sz r m:=hr
 obtain⟨a1,a2,a3⟩:=Sz.j4 hq aa
 obtain⟨b1,b2,b3⟩:=Sz.j4 hr aa
 have d1:=q.den_nz
 have d2:=r.den_nz
 have m1:nl (q.num.natAbs*r.den)<2^40:=kq (n:=n+m) (by rw[Nat.pow_add];exact Nat.mul_lt_mul'' hq.1 hr.2) aa
 have m2:nl (r.num.natAbs*q.den)<2^40:=kq (n:=m+n) (by rw[Nat.pow_add];exact Nat.mul_lt_mul'' hr.1 hq.2) aa
 refine bW hT lD hm ac5 rfl aW rfl 60 ad1 (fun _=>?_) K pre
 simp only[af.all,az,bne_iff_ne,ne_eq,bne_eq_false_iff_eq]
 refine⟨⟨aa,aa,aa,aa⟩,fun hs=>⟨fun hl=>bQ ?_,fun hl=>bQ ?_⟩,fun hs=>⟨aa,⟨aa,aa,a3,b3⟩,fun hd=>⟨⟨aa,aa,a1,b1⟩,aa,fun hc=>bQ ?_,fun hc=>bQ ?_⟩,fun hd=>⟨aa,fun hp=>⟨hp,fun hp2=>?_,fun hp2=>⟨⟨aa,aa,a1,b2,aa,aa,b1,a2,m1,m2⟩,aa,fun hc=>bQ ?_,fun hc=>bQ ?_⟩⟩,fun hp=>⟨hp,fun h=>by simp at h,fun _=>⟨⟨aa,aa,a1,b2,aa,aa,b1,a2,m1,m2⟩,aa,fun hc=>bQ ?_,fun hc=>bQ ?_⟩⟩⟩⟩⟩
 ·rw[AL hs,if_pos (of_decide_eq_true hl)]
 ·rw[AL hs,if_neg (of_decide_eq_false hl)]
 ·have hd:=of_decide_eq_true hd
  have e:q.den=r.den:=by split at hd<;>split at hd<;>omega
  rw[nu hs,if_pos (of_decide_eq_true hc),e,Jo aa,AB]
 ·have hd:=of_decide_eq_true hd
  have e:q.den=r.den:=by split at hd<;>split at hd<;>omega
  rw[nu hs,if_neg (of_decide_eq_false hc),e,Jo aa]
 ·have hp2:=jy hp2
  obtain⟨q1,q2⟩:=oU hp
  obtain⟨r1,r2⟩:=oU hp2
  rw[if_pos hp,if_pos hp2,if_pos hp2,if_pos hp,(nZ q1 r2).1,(nZ r1 q2).1]
  have hcs:=nu hs
  generalize q.num.natAbs*r.den=X at*
  generalize r.num.natAbs*q.den=Y at*
  unfold cV at hcs
  refine⟨fun h1=>⟨aa,fun hc=>bQ ?_,fun hc=>bQ ?_⟩,fun h1=>⟨fun h2=>⟨aa,fun hc=>bQ ?_,fun hc=>bQ ?_⟩,fun h2=>⟨aa,fun hc=>bQ ?_,fun hc=>bQ ?_⟩⟩⟩
  all_goals rw[hcs]
  ·rw[if_pos (of_decide_eq_true hc),if_pos (by have:=of_decide_eq_true h1;omega)];rfl
  ·rw[if_neg (of_decide_eq_false hc),if_pos (by have:=of_decide_eq_true h1;omega)]
  ·rw[if_pos (of_decide_eq_true hc),if_neg (by have:=of_decide_eq_false h1;omega),if_pos (by have:=of_decide_eq_true h2;omega)]
  ·rw[if_neg (of_decide_eq_false hc),if_neg (by have:=of_decide_eq_false h1;omega),if_pos (by have:=of_decide_eq_true h2;omega)]
  ·rw[if_pos (of_decide_eq_true hc),if_neg (by have:=of_decide_eq_false h1;omega),if_neg (by have:=of_decide_eq_false h2;omega)];rfl
  ·rw[if_neg (of_decide_eq_false hc),if_neg (by have:=of_decide_eq_false h1;omega),if_neg (by have:=of_decide_eq_false h2;omega)]
 ·rw[nu hs,if_pos (of_decide_eq_true hc),AB]
 ·rw[nu hs,if_neg (of_decide_eq_false hc)]
 ·rw[nu hs,if_pos (of_decide_eq_true hc),AB]
 ·rw[nu hs,if_neg (of_decide_eq_false hc)]
theorem SW:bf P JT 58:=by
 refine cE fun K args r hk hs _=>?_
 split at hs
 ·simp only[ax]at hs
  subst hs
  exact fun need=>Fe need.1 need.2 K [] trivial
 ·simp at hs
theorem aaV:bf P EG.2 EG.1:=NQ
theorem uW:bK P GA:=aK UD (aK SW (aK aaV (aK N4 (aK Kf (aK Mx bU)))))
section ops
variable {q r:Rat} {n m:Nat}
theorem abN (hn:n<2^42) (hm':m<2^42) (K:Nat):aO P 128 K [.rat q n,.rat r m] [] (aJ (.rat (q+r) (n+m+1)) []):=by
 refine bW hT uW hm OH rfl aW rfl 60 Uw (fun _=>?_) K []
 simp only[af.all,az,kX]
 exact⟨⟨aa,aa,aa,hn,hm',aa⟩,aa,.refl _⟩
theorem Q4 (r:Rat):sQ (!decide (r<0)) r.num.natAbs r.den=-r:=by
 have h:=kX r
 conv=>rhs;rw[<-h]
 unfold sQ
 rw[Rat.neg_mkRat]
 congr 1
 unfold gk
 by_cases h:r<0<;>simp[h]
theorem NB (hn:n<2^42) (hm':m<2^42) (K:Nat):aO P 143 K [.rat q n,.rat r m] [] (aJ (.rat (q-r) (n+m+1)) []):=by
 refine bW hT uW hm RH rfl aW rfl 60 ad7 (fun _=>?_) K []
 simp only[af.all,az,Q4]
 exact⟨⟨aa,aa,aa,hn,hm',aa⟩,aa,en (by rw[Rat.sub_eq_add_neg])⟩
def jz (q r:Rat):Rat:=if r<q then r else q
def jw (q r:Rat):Rat:=if q<r then r else q
theorem AJ {q r:Rat}:iJ q r<0↔q<r:=by unfold iJ;grind
theorem FR {q r:Rat}:iJ q r>0↔r<q:=by unfold iJ;grind
theorem YQ (hn:n<2^42) (hm':m<2^42) (K:Nat):aO P 130 K [.rat q n,.rat r m] [] (aJ (.rat (jz q r) (max n m)) []):=by
 refine bW hT uW hm TG rfl aW rfl 60 XF (fun _=>?_) K []
 simp only[af.all,az,bz,bE,AJ]
 refine⟨⟨aa,aa,hm',hn⟩,fun h=>⟨⟨aa,aa⟩,⟨aa,aa,aa⟩,aa,?_⟩,fun h=>⟨⟨aa,aa,aa⟩,aa,?_⟩⟩
 ·unfold jz;rw[if_pos h];exact nh (Nat.le_max_right _ _)
 ·unfold jz;rw[if_neg h];exact nh (Nat.le_max_left _ _)
theorem Ol (hn:n<2^42) (hm':m<2^42) (K:Nat):aO P 131 K [.rat q n,.rat r m] [] (aJ (.rat (jw q r) (max n m)) []):=by
 refine bW hT uW hm abA rfl aW rfl 60 ZY (fun _=>?_) K []
 simp only[af.all,az,bz,bE,FR]
 refine⟨⟨aa,aa,hm',hn⟩,fun h=>⟨⟨aa,aa⟩,⟨aa,aa,aa⟩,aa,?_⟩,fun h=>⟨⟨aa,aa,aa⟩,aa,?_⟩⟩
 ·unfold jw;rw[if_pos h];exact nh (Nat.le_max_right _ _)
 ·unfold jw;rw[if_neg h];exact nh (Nat.le_max_left _ _)
theorem NS {n:Int}:sQ (decide (n<0)) n.natAbs 1=(n:Rat):=by
 unfold sQ
 have:gk (decide (n<0)) n.natAbs=n:=by unfold gk;by_cases h:n<0<;>simp[h]<;>omega
 rw[this,Rat.mkRat_one]
theorem Dg {n:Int}:Sz (n:Rat) (max 1 (bI n.natAbs)):=by
 refine⟨?_,?_⟩
 ·rw[Rat.num_intCast]
  exact Nat.lt_of_lt_of_le (jW.1 aQ) (Nat.pow_le_pow_right aa (Nat.le_max_right _ _))
 ·rw[Rat.den_intCast]
  exact Nat.lt_of_lt_of_le (show 1<2^1 by omega) (Nat.pow_le_pow_right aa (Nat.le_max_left _ _))
theorem NH {n:Int} (h1:-2^63<=n) (h2:n<2^63) (K:Nat):aO P 71 K [.int .i64 n] [] (aJ (.rat (n:Rat) (max 1 (bI n.natAbs))) []):=by
 refine bW hT uW hm aaN rfl aW rfl 60 ab3 (fun _=>?_) K []
 simp only[af.all,az,NS]
 exact⟨⟨h1,h2,kq (n:=64) aa aa,by decide,aa⟩,aa,ee rfl Dg⟩
theorem LK (hn:n<2^42) (hm':m<2^42) (K:Nat):aO P 129 K [.rat q n,.rat r m] [] (aJ (.rat (q*r) (n+m)) []):=by
 refine kE fun⟨hq,hr,_⟩=>?_
 have hq:Sz q n:=hq
 have hr:Sz r m:=hr
 obtain⟨a1,a2,a3⟩:=Sz.j4 hq aa
 obtain⟨b1,b2,b3⟩:=Sz.j4 hr aa
 have d1:=q.den_nz
 have d2:=r.den_nz
 have m1:nl (q.num.natAbs*r.num.natAbs)<2^40:=kq (n:=n+m) (by rw[Nat.pow_add];exact Nat.mul_lt_mul'' hq.1 hr.1) aa
 have m2:nl (q.den*r.den)<2^40:=kq (n:=n+m) (by rw[Nat.pow_add];exact Nat.mul_lt_mul'' hq.2 hr.2) aa
 have hz:=hq.mul hr
 have hv:sQ (decide (q<0)!=decide (r<0)) (q.num.natAbs*r.num.natAbs) (q.den*r.den)=q*r:=by rw[<-Db,kX,kX]
 have hzero:q=0\/r=0->bB (.agg [.bool false,.mag 0,.mag 0]) (.rat (q*r) (n+m)):=by
  intro h
  have e:q*r=0:=by rcases h with h|h<;>subst h<;>simp
  obtain⟨k,hk⟩:∃k,n+m=k+1:=⟨n+m-1,by have:=hq.pos;omega⟩
  rw[e,hk];exact mK
 refine bW hT lD hm Sx rfl aW rfl 60 RR (fun _=>?_) K []
 have hlong:(af.aj
         [(0:Nat)<1,(0:Nat)<1,(0:Nat)<1,(0:Nat)<1,nl q.num.natAbs<2^40,nl r.num.natAbs<2^40,(0:Nat)<1,(0:Nat)<1,nl q.den<2^40,nl r.den<2^40,nl (q.num.natAbs*r.num.natAbs)<2^40,nl (q.den*r.den)<2^40,(0:Nat)<1]
         (af.aj [(0:Nat)<1]
          (af.leaf aq.ret
           [AV.rat (sQ (decide (q<0)!=decide (r<0)) (q.num.natAbs*r.num.natAbs) (q.den*r.den))
             (dj (sQ (decide (q<0)!=decide (r<0)) (q.num.natAbs*r.num.natAbs) (q.den*r.den)))]))).all fun _ us=>fZ us (.rat (q*r) (n+m)):=by
  simp only[af.all,az]
  exact⟨⟨aa,aa,aa,aa,a1,b1,aa,aa,a2,b2,m1,m2,aa⟩,aa,ee hv hz⟩
 refine⟨fun hb=>⟨⟨show 0<1 by omega,hb⟩,fun _=>⟨show 0<1 by omega,show 0<1 by omega,hzero (.inl ?_)⟩,fun h=>by simp at h⟩,fun hb=>⟨⟨show 0<1 by omega,hb,show 0<1 by omega⟩,fun hc=>⟨show 0<1 by omega,show 0<1 by omega,hzero (.inr ?_)⟩,fun hc=>⟨show 0<1 by omega,fun h1=>⟨show 0<1 by omega,fun h2=>?_,fun h2=>hlong⟩,fun h1=>hlong⟩⟩⟩
 ·have:=eq_of_beq hb
  exact nQ.1 (kB.1 aa)
 ·have:=eq_of_beq (iK hc)
  exact nQ.1 (kB.1 aa)
 ·obtain⟨q1,q2⟩:=oU h1
  obtain⟨r1,r2⟩:=oU h2
  obtain⟨wx,bx⟩:=nZ q1 r1
  obtain⟨wd,bd⟩:=nZ q2 r2
  have hd0:q.den*r.den≠0:=Nat.mul_ne_zero d1 d2
  rw[if_pos h1,if_pos h2,if_pos h1,if_pos h2,wx,wd]
  simp only[af.all,az,bu]
  exact⟨⟨aa,aa,aa,aa,aa⟩,aa,ee hv hz⟩
theorem A9 (q r:Rat) (hr:r≠0):sQ (decide (q<0)!=decide (r<0)) (q.num.natAbs*r.den) (q.den*r.num.natAbs)=q/r:=by
 have hn:r.num≠0:=fun h=>hr (Rat.num_eq_zero.1 h)
 have hi:r⁻¹=sQ (decide (r<0)) r.den r.num.natAbs:=by
  rw[<-kX r⁻¹]
  have e1:r⁻¹.num.natAbs=r.den:=by rw[Rat.num_inv,Int.natAbs_mul,Int.natAbs_natCast,Int.natAbs_sign_of_ne_zero hn,Nat.one_mul]
  have e2:r⁻¹.den=r.num.natAbs:=by rw[Rat.den_inv,if_neg hn]
  have e3:decide (r⁻¹<0)=decide (r<0):=by
   rw[decide_eq_decide,je,je,Rat.num_inv]
   have hd:=r.den_nz
   have hd':(0:Int)<(r.den:Int):=aa
   rcases Int.lt_trichotomy r.num 0 with h|h|h
   ·rw[Int.sign_eq_neg_one_of_neg h];omega
   ·exact absurd h hn
   ·rw[Int.sign_eq_one_of_pos h];omega
  rw[e1,e2,e3]
 rw[Rat.div_def,hi]
 conv=>rhs;rw[<-kX q]
 rw[Db]
theorem C9 (hn:n<2^42) (hm':m<2^42) (K:Nat):aO P 142 K [.rat q n,.rat r m] [] (aJ (.tuple [.rat (q/r) (n+m),.int .i64 (if r=0 then 3 else 0)]) []):=by
 refine kE fun⟨hq,hr,_⟩=>?_
 have hq:Sz q n:=hq
 have hr:Sz r m:=hr
 obtain⟨a1,a2,a3⟩:=Sz.j4 hq aa
 obtain⟨b1,b2,b3⟩:=Sz.j4 hr aa
 have d1:=q.den_nz
 have d2:=r.den_nz
 have m1:nl (q.num.natAbs*r.den)<2^40:=kq (n:=n+m) (by rw[Nat.pow_add];exact Nat.mul_lt_mul'' hq.1 hr.2) aa
 have m2:nl (q.den*r.num.natAbs)<2^40:=kq (n:=n+m) (by rw[Nat.pow_add];exact Nat.mul_lt_mul'' hq.2 hr.1) aa
 have hz:=hq.div hr
 have sg:∀{x:Rat},dJ x=0↔x=0:=by intro x;unfold dJ;grind
 refine bW hT lD hm Oa rfl aW rfl 60 adL (fun _=>?_) K []
 refine⟨⟨show 0<1 by omega,show m<2^44 by omega⟩,fun hb=>⟨show 0<1 by omega,show 0<1 by omega,?_,?_,trivial⟩,fun hb=>⟨show 0<1 by omega,?_⟩⟩
 ·have h0:r=0:=sg.1 (eq_of_beq hb)
  have e:q/r=0:=by rw[h0,Rat.div_def,Rat.inv_zero,Rat.mul_zero]
  obtain⟨k,hk⟩:∃k,n+m=k+1:=⟨n+m-1,by have:=hq.pos;omega⟩
  rw[e,hk];exact mK
 ·have h0:r=0:=sg.1 (eq_of_beq hb)
  exact bQ (by rw[if_pos h0])
 have h0:r≠0:=fun h=>by
  rw[h]at hb
  simp[dJ]at hb
 have hv:=A9 q r h0
 have he:bB (.int .i64 0) (.int .i64 (if r=0 then 3 else 0)):=bQ (by rw[if_neg h0])
 have hlong:(af.aj
         [(0:Nat)<1,(0:Nat)<1,(0:Nat)<1,(0:Nat)<1,nl q.num.natAbs<2^40,nl r.den<2^40,(0:Nat)<1,(0:Nat)<1,nl q.den<2^40,nl r.num.natAbs<2^40,nl (q.num.natAbs*r.den)<2^40,nl (q.den*r.num.natAbs)<2^40,(0:Nat)<1]
         (af.aj [(0:Nat)<1]
          (af.leaf aq.ret
           [AV.rat (sQ (decide (q<0)!=decide (r<0)) (q.num.natAbs*r.den) (q.den*r.num.natAbs))
             (dj (sQ (decide (q<0)!=decide (r<0)) (q.num.natAbs*r.den) (q.den*r.num.natAbs))),.int .i64 0]))).all fun _ us=>fZ us (.tuple [.rat (q/r) (n+m),.int .i64 (if r=0 then 3 else 0)]):=by
  simp only[af.all,az]
  exact⟨⟨aa,aa,aa,aa,a1,b2,aa,aa,a2,b1,m1,m2,aa⟩,aa,ee hv hz,he,trivial⟩
 refine⟨fun h1=>⟨show 0<1 by omega,fun h2=>?_,fun h2=>hlong⟩,fun h1=>hlong⟩
 obtain⟨q1,q2⟩:=oU h1
 obtain⟨r1,r2⟩:=oU h2
 obtain⟨wx,bx⟩:=nZ q1 r2
 obtain⟨wd,bd⟩:=nZ q2 r1
 have hr0:r.num.natAbs≠0:=fun h=>h0 (nQ.1 h)
 have hd0:q.den*r.num.natAbs≠0:=Nat.mul_ne_zero d1 hr0
 rw[if_pos h1,if_pos h2,if_pos h1,if_pos h2,wx,wd]
 simp only[af.all,az,bu]
 exact⟨⟨aa,aa,aa,aa,aa⟩,aa,ee hv hz,he,trivial⟩
end ops
def KE:Spec:=bR fun l=>match l with
 |[.int .i64 n]=>some (aJ (.rat (n:Rat) (max 1 (bI n.natAbs))) [-2^63<=n,n<2^63])
 |_=>none
theorem V5:bf P KE 71:=by
 refine cE fun K args r hk hs _=>?_
 split at hs
 ·simp only[ax]at hs
  subst hs
  exact fun need=>NH need.1 need.2 K trivial
 ·simp at hs
end Go.Am.B
