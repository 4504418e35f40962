/- rational.Add, Sub, Mul, Quo, Cmp, Min, Max, Int. -/
import Derived.Test.YtolopdkjjlfgjaaGreatB20
set_option linter.unusedVariables false
namespace Go.Am.B
open Go Go.Am.N AV Proofs.Tryz IntKind
theorem Ur:aZ 128 f128:=bf func128
theorem Tf:aZ 143 f143:=bf func143
theorem X2:aZ 130 f130:=bf func130
theorem UZ:aZ 131 f131:=bf func131
theorem aap:aZ 71 f71:=bf func71
def KL:Spec:=bR fun l=>match l with
 |[.rat q n,.rat r m,.bool s]=>some (aJ (.rat (q+sQ s r.num.natAbs r.den) (n+m+1)) [n<2^42,m<2^42])
 |_=>none
def IW:Spec:=bR fun l=>match l with
 |[.rat q n,.rat r m]=>some (aJ (.int .i64 (gj q r)) [n<2^42,m<2^42])
 |_=>none
abbrev CK:FuncId×Spec:=(166,J2)
def GA:bp:=(164,KL)::(58,IW)::CK::(134,HV)::(132,Aj)::(133,BG)::[]
theorem aco {q r:Rat} {n m:Nat}:bT T GA [] 60 f128 (aG f128) ⟨aQ 0 [.rat q n,.rat r m],[],0⟩=
  let c1:Prop:=0<1;some (af.aj [c1,c1,c1,n<2^42,m<2^42,c1] (af.aj [c1] (af.leaf aq.ret [rat (q+sQ (decide (r<0)) r.num.natAbs r.den) (n+m+1)]))):=ah
theorem Pj {q r:Rat} {n m:Nat}:bT T GA [] 60 f143 (aG f143) ⟨aQ 0 [.rat q n,.rat r m],[],0⟩=
  let c1:Prop:=0<1;some (af.aj [c1,c1,c1,n<2^42,m<2^42,c1] (af.aj [c1] (af.leaf aq.ret [rat (q+sQ (!decide (r<0)) r.num.natAbs r.den) (n+m+1)]))):=ah
theorem R9 {q r:Rat} {n m:Nat}:bT T GA [8] 60 f130 (aG f130) ⟨aQ 0 [.rat q n,.rat r m],[],0⟩=
  let c1:Prop:=0<1;some (af.aj [c1,c1,m<2^42,n<2^42] (af.fork (decide (gj r q<0)) (af.aj [c1,c1] (af.aj [c1,m<2^44,c1] (af.aj [c1] (af.leaf aq.ret [rat r m])))) (af.aj [c1,n<2^44,c1] (af.aj [c1] (af.leaf aq.ret [rat q n]))))):=ah
theorem Sd {q r:Rat} {n m:Nat}:bT T GA [8] 60 f131 (aG f131) ⟨aQ 0 [.rat q n,.rat r m],[],0⟩=
  let c1:Prop:=0<1;some (af.aj [c1,c1,m<2^42,n<2^42] (af.fork (decide (gj r q>0)) (af.aj [c1,c1] (af.aj [c1,m<2^44,c1] (af.aj [c1] (af.leaf aq.ret [rat r m])))) (af.aj [c1,n<2^44,c1] (af.aj [c1] (af.leaf aq.ret [rat q n]))))):=ah
theorem Ow {n:Int}:bT T GA [] 60 f71 (aG f71) ⟨aQ 0 [.int .i64 n],[],0⟩=
  let c1:Rat:=sQ (decide (n<0)) n.natAbs 1;some (af.aj [-(2:Int)^63<=n,n<2^63,nl n.natAbs<2^40,nl 1<2^40,(0:Nat)<1] (af.aj [(0:Nat)<1] (af.leaf aq.ret [rat c1 (dx c1)]))):=ah
theorem PN {q r:Rat} {n m:Nat}:bT T GQ [20,23,34,47,49,56,63,76] 60 f58 (aG f58) ⟨aQ 0 [.rat q n,.rat r m],[],0⟩=
  let c14:af (List AV):=af.leaf aq.ret [int .i64 (0:Int)];let c13:Nat:=q.num.natAbs;let c12:Nat:=r.num.natAbs;let c11:af (List AV):=af.leaf aq.ret [int .i64 (1:Int)];let c10:Bool:=decide (q<0);let c9:af (List AV):=af.leaf aq.ret [int .i64 (-1:Int)];let c8:Nat:=if r.den=1 then 0 else r.den;let c7:Nat:=if q.den=1 then 0 else q.den;let c6:Nat:=2^40;let c5:Prop:=0<1;let c15:Int:=cW (c13*r.den) (c12*q.den);let c4:Int:=u64.wrap ((↑(if ef q=true then c13 else 0):Int)*(↑(if ef r=true then r.den else 0):Int));let c3:Int:=u64.wrap ((↑(if ef r=true then c12 else 0):Int)*(↑(if ef q=true then q.den else 0):Int));let c2:af (List AV):=af.aj [c5,c5,nl c13<c6,nl r.den<c6,c5,c5,nl c12<c6,nl q.den<c6,nl (c13*r.den)<c6,nl (c12*q.den)<c6] (af.aj [c5] (af.fork c10 (af.leaf aq.ret [int .i64 (i64.wrap ((0:Int)-c15))]) (af.leaf aq.ret [int .i64 c15])));let c1:af (List AV):=af.fork (decide (c4<c3)) (af.aj [c5] (af.fork c10 c11 c9)) (af.fork (decide (c4>c3)) (af.aj [c5] (af.fork c10 c9 c11)) (af.aj [c5] (af.fork c10 c14 c14)));some (af.aj [c5,n<2^44,c5,m<2^44] (af.fork (dm q !=dm r) (af.fork (decide (dm q<dm r)) c9 c11) (af.aj [c5] (af.aj [c5,c5,nl c7<c6,nl c8<c6] (af.fork (decide (c7=c8)) (af.aj [c5,c5,nl c13<c6,nl c12<c6] (af.aj [c5] (af.fork c10 (af.leaf aq.ret [int .i64 (i64.wrap ((0:Int)-cW c13 c12))]) (af.leaf aq.ret [int .i64 (cW c13 c12)])))) (af.aj [c5] (af.fork (ef q) (af.aj [ef q=true] (af.fork (bif true then ef r else false) c1 c2)) (af.aj [ef q=false] (af.fork false c1 c2))))))))):=ah
theorem aaH:aY P KL 164:=by
 refine cD fun K args r hk hs _=>?_
 split at hs
 ·simp only[ay]at hs
  subst hs
  exact fun need=>MT need.1 need.2 K [] trivial
 ·simp at hs
theorem z8 {q r:Rat} (h:dm q≠dm r):gj q r=if dm q<dm r then-1 else 1:=by
 unfold dm gj at*
 grind
theorem N9 {a b:Nat}:-cW a b=cW b a:=by unfold cW;split<;>split<;>omega
theorem EK {a b k:Nat} (hk:0<k):cW (a*k) (b*k)=cW a b:=by
 unfold cW
 simp only[Nat.mul_lt_mul_right hk]
theorem yU {a b:Nat}:i64.wrap (0-cW a b)=-cW a b:=by
 have:cW a b=-1\/cW a b=0\/cW a b=1:=by unfold cW;split;exact .inl rfl;split;exact .inr (.inr rfl);exact .inr (.inl rfl)
 rcases this with h|h|h<;>rw[h]<;>rfl
theorem ng {q r:Rat} (h:dm q=dm r):gj q r=if q<0 then-cW (q.num.natAbs*r.den) (r.num.natAbs*q.den)else cW (q.num.natAbs*r.den) (r.num.natAbs*q.den):=by
 have h1:q<0↔r<0:=by unfold dm at h;grind
 have e1:∀{a b:Nat},(-(a:Int))*(b:Int)=-((a*b:Nat):Int):=fun {a b}=>by simp[Int.neg_mul]
 have e2:∀{a b:Nat},(a:Int)*(b:Int)=((a*b:Nat):Int):=fun {a b}=>by simp
 unfold gj
 by_cases hq:q<0
 ·have hr:=h1.1 hq
  have q1:q.num=-(q.num.natAbs:Int):=by have:=iT.1 hq;omega
  have r1:r.num=-(r.num.natAbs:Int):=by have:=iT.1 hr;omega
  have l1:q<r↔r.num.natAbs*q.den<q.num.natAbs*r.den:=by
   rw[Rat.lt_iff]
   conv=>lhs;rw[q1,r1,e1,e1]
   omega
  have l2:r<q↔q.num.natAbs*r.den<r.num.natAbs*q.den:=by
   rw[Rat.lt_iff]
   conv=>lhs;rw[q1,r1,e1,e1]
   omega
  rw[if_pos hq,N9]
  unfold cW
  simp only[l1,l2]
 ·have hr:¬r<0:=fun h=>hq (h1.2 h)
  have q1:q.num=(q.num.natAbs:Int):=by have:¬q.num<0:=fun h=>hq (iT.2 h);omega
  have r1:r.num=(r.num.natAbs:Int):=by have:¬r.num<0:=fun h=>hr (iT.2 h);omega
  have l1:q<r↔q.num.natAbs*r.den<r.num.natAbs*q.den:=by
   rw[Rat.lt_iff]
   conv=>lhs;rw[q1,r1,e2,e2]
   omega
  have l2:r<q↔r.num.natAbs*q.den<q.num.natAbs*r.den:=by
   rw[Rat.lt_iff]
   conv=>lhs;rw[q1,r1,e2,e2]
   omega
  rw[if_neg hq]
  unfold cW
  simp only[l1,l2]
theorem JX {q r:Rat} {n m:Nat} (hn:n<2^42) (hm':m<2^42) (K:Nat) (pre:aD):aO P 58 K [.rat q n,.rat r m] pre (aJ (.int .i64 (gj q r)) []):=by
 refine jU fun⟨hq,hr,_⟩=>?_
 have hq:Sz q n:=hq
 have hr:Sz r m:=hr
 obtain⟨a1,a2,a3⟩:=Sz.jF hq aa
 obtain⟨b1,b2,b3⟩:=Sz.jF hr aa
 have d1:=q.den_nz
 have d2:=r.den_nz
 have m1:nl (q.num.natAbs*r.den)<2^40:=jz (n:=n+m) (by rw[Nat.pow_add];exact Nat.mul_lt_mul'' hq.1 hr.2) aa
 have m2:nl (r.num.natAbs*q.den)<2^40:=jz (n:=m+n) (by rw[Nat.pow_add];exact Nat.mul_lt_mul'' hr.1 hq.2) aa
 refine cj hT kA hm Wm rfl aX rfl 60 PN (fun _=>?_) K pre
 simp only[af.all,az,bne_iff_ne,ne_eq,bne_eq_false_iff_eq]
 refine⟨⟨aa,aa,aa,aa⟩,fun hs=>⟨fun hl=>bN ?_,fun hl=>bN ?_⟩,fun hs=>⟨aa,⟨aa,aa,a3,b3⟩,fun hd=>⟨⟨aa,aa,a1,b1⟩,aa,fun hc=>bN ?_,fun hc=>bN ?_⟩,fun hd=>⟨aa,fun hp=>⟨hp,fun hp2=>?_,fun hp2=>⟨⟨aa,aa,a1,b2,aa,aa,b1,a2,m1,m2⟩,aa,fun hc=>bN ?_,fun hc=>bN ?_⟩⟩,fun hp=>⟨hp,fun h=>by simp at h,fun _=>⟨⟨aa,aa,a1,b2,aa,aa,b1,a2,m1,m2⟩,aa,fun hc=>bN ?_,fun hc=>bN ?_⟩⟩⟩⟩⟩
 ·rw[z8 hs,if_pos (of_decide_eq_true hl)]
 ·rw[z8 hs,if_neg (of_decide_eq_false hl)]
 ·have hd:=of_decide_eq_true hd
  have e:q.den=r.den:=by split at hd<;>split at hd<;>omega
  rw[ng hs,if_pos (of_decide_eq_true hc),e,EK aa,yU]
 ·have hd:=of_decide_eq_true hd
  have e:q.den=r.den:=by split at hd<;>split at hd<;>omega
  rw[ng hs,if_neg (of_decide_eq_false hc),e,EK aa]
 ·have hp2:=jc hp2
  obtain⟨q1,q2⟩:=oY hp
  obtain⟨r1,r2⟩:=oY hp2
  rw[if_pos hp,if_pos hp2,if_pos hp2,if_pos hp,(mN q1 r2).1,(mN r1 q2).1]
  have hcs:=ng hs
  generalize q.num.natAbs*r.den=X at*
  generalize r.num.natAbs*q.den=Y at*
  unfold cW at hcs
  refine⟨fun h1=>⟨aa,fun hc=>bN ?_,fun hc=>bN ?_⟩,fun h1=>⟨fun h2=>⟨aa,fun hc=>bN ?_,fun hc=>bN ?_⟩,fun h2=>⟨aa,fun hc=>bN ?_,fun hc=>bN ?_⟩⟩⟩
  all_goals rw[hcs]
  ·rw[if_pos (of_decide_eq_true hc),if_pos (by have:=of_decide_eq_true h1;omega)];rfl
  ·rw[if_neg (of_decide_eq_false hc),if_pos (by have:=of_decide_eq_true h1;omega)]
  ·rw[if_pos (of_decide_eq_true hc),if_neg (by have:=of_decide_eq_false h1;omega),if_pos (by have:=of_decide_eq_true h2;omega)]
  ·rw[if_neg (of_decide_eq_false hc),if_neg (by have:=of_decide_eq_false h1;omega),if_pos (by have:=of_decide_eq_true h2;omega)]
  ·rw[if_pos (of_decide_eq_true hc),if_neg (by have:=of_decide_eq_false h1;omega),if_neg (by have:=of_decide_eq_false h2;omega)];rfl
  ·rw[if_neg (of_decide_eq_false hc),if_neg (by have:=of_decide_eq_false h1;omega),if_neg (by have:=of_decide_eq_false h2;omega)]
 ·rw[ng hs,if_pos (of_decide_eq_true hc),yU]
 ·rw[ng hs,if_neg (of_decide_eq_false hc)]
 ·rw[ng hs,if_pos (of_decide_eq_true hc),yU]
 ·rw[ng hs,if_neg (of_decide_eq_false hc)]
theorem Zx:aY P IW 58:=by
 refine cD fun K args r hk hs _=>?_
 split at hs
 ·simp only[ay]at hs
  subst hs
  exact fun need=>JX need.1 need.2 K [] trivial
 ·simp at hs
theorem ZW:aY P CK.2 CK.1:=WG
theorem wk:bI P GA:=aI aaH (aI Zx (aI ZW (aI PB (aI Ld (aI He bY)))))
section ops
variable {q r:Rat} {n m:Nat}
theorem T7 (hn:n<2^42) (hm':m<2^42) (K:Nat):aO P 128 K [.rat q n,.rat r m] [] (aJ (.rat (q+r) (n+m+1)) []):=by
 refine cj hT wk hm Ur rfl aX rfl 60 aco (fun _=>?_) K []
 simp only[af.all,az,jR]
 exact⟨⟨aa,aa,aa,hn,hm',aa⟩,aa,.refl _⟩
theorem abh (r:Rat):sQ (!decide (r<0)) r.num.natAbs r.den=-r:=by
 have h:=jR r
 conv=>rhs;rw[<-h]
 unfold sQ
 rw[Rat.neg_mkRat]
 congr 1
 unfold fW
 by_cases h:r<0<;>simp[h]
theorem YE (hn:n<2^42) (hm':m<2^42) (K:Nat):aO P 143 K [.rat q n,.rat r m] [] (aJ (.rat (q-r) (n+m+1)) []):=by
 refine cj hT wk hm Tf rfl aX rfl 60 Pj (fun _=>?_) K []
 simp only[af.all,az,abh]
 exact⟨⟨aa,aa,aa,hn,hm',aa⟩,aa,dZ (by rw[Rat.sub_eq_add_neg])⟩
def iU (q r:Rat):Rat:=if r<q then r else q
def iV (q r:Rat):Rat:=if q<r then r else q
theorem zN {q r:Rat}:gj q r<0↔q<r:=by unfold gj;grind
theorem Ib {q r:Rat}:gj q r>0↔r<q:=by unfold gj;grind
theorem Z7 (hn:n<2^42) (hm':m<2^42) (K:Nat):aO P 130 K [.rat q n,.rat r m] [] (aJ (.rat (iU q r) (max n m)) []):=by
 refine cj hT wk hm X2 rfl aX rfl 60 R9 (fun _=>?_) K []
 simp only[af.all,az,bz,bB,zN]
 refine⟨⟨aa,aa,hm',hn⟩,fun h=>⟨⟨aa,aa⟩,⟨aa,aa,aa⟩,aa,?_⟩,fun h=>⟨⟨aa,aa,aa⟩,aa,?_⟩⟩
 ·unfold iU;rw[if_pos h];exact mw (Nat.le_max_right _ _)
 ·unfold iU;rw[if_neg h];exact mw (Nat.le_max_left _ _)
theorem adk (hn:n<2^42) (hm':m<2^42) (K:Nat):aO P 131 K [.rat q n,.rat r m] [] (aJ (.rat (iV q r) (max n m)) []):=by
 refine cj hT wk hm UZ rfl aX rfl 60 Sd (fun _=>?_) K []
 simp only[af.all,az,bz,bB,Ib]
 refine⟨⟨aa,aa,hm',hn⟩,fun h=>⟨⟨aa,aa⟩,⟨aa,aa,aa⟩,aa,?_⟩,fun h=>⟨⟨aa,aa,aa⟩,aa,?_⟩⟩
 ·unfold iV;rw[if_pos h];exact mw (Nat.le_max_right _ _)
 ·unfold iV;rw[if_neg h];exact mw (Nat.le_max_left _ _)
theorem Zn {n:Int}:sQ (decide (n<0)) n.natAbs 1=(n:Rat):=by
 unfold sQ
 have:fW (decide (n<0)) n.natAbs=n:=by unfold fW;by_cases h:n<0<;>simp[h]<;>omega
 rw[this,Rat.mkRat_one]
theorem DS {n:Int}:Sz (n:Rat) (max 1 (bJ n.natAbs)):=by
 refine⟨?_,?_⟩
 ·rw[Rat.num_intCast]
  exact Nat.lt_of_lt_of_le (jh.1 aP) (Nat.pow_le_pow_right aa (Nat.le_max_right _ _))
 ·rw[Rat.den_intCast]
  exact Nat.lt_of_lt_of_le (show 1<2^1 by omega) (Nat.pow_le_pow_right aa (Nat.le_max_left _ _))
theorem WM {n:Int} (h1:-2^63<=n) (h2:n<2^63) (K:Nat):aO P 71 K [.int .i64 n] [] (aJ (.rat (n:Rat) (max 1 (bJ n.natAbs))) []):=by
 refine cj hT wk hm aap rfl aX rfl 60 Ow (fun _=>?_) K []
 simp only[af.all,az,Zn]
 exact⟨⟨h1,h2,jz (n:=64) aa aa,by decide,aa⟩,aa,dF rfl DS⟩
theorem Kc (hn:n<2^42) (hm':m<2^42) (K:Nat):aO P 129 K [.rat q n,.rat r m] [] (aJ (.rat (q*r) (n+m)) []):=by
 refine jU fun⟨hq,hr,_⟩=>?_
 have hq:Sz q n:=hq
 have hr:Sz r m:=hr
 obtain⟨a1,a2,a3⟩:=Sz.jF hq aa
 obtain⟨b1,b2,b3⟩:=Sz.jF hr aa
 have d1:=q.den_nz
 have d2:=r.den_nz
 have m1:nl (q.num.natAbs*r.num.natAbs)<2^40:=jz (n:=n+m) (by rw[Nat.pow_add];exact Nat.mul_lt_mul'' hq.1 hr.1) aa
 have m2:nl (q.den*r.den)<2^40:=jz (n:=n+m) (by rw[Nat.pow_add];exact Nat.mul_lt_mul'' hq.2 hr.2) aa
 have hz:=hq.mul hr
 have hv:sQ (decide (q<0)!=decide (r<0)) (q.num.natAbs*r.num.natAbs) (q.den*r.den)=q*r:=by rw[<-Dd,jR,jR]
 have hzero:q=0\/r=0->bA (.agg [.bool false,.mag 0,.mag 0]) (.rat (q*r) (n+m)):=by
  intro h
  have e:q*r=0:=by rcases h with h|h<;>subst h<;>simp
  obtain⟨k,hk⟩:∃k,n+m=k+1:=⟨n+m-1,by have:=hq.pos;omega⟩
  rw[e,hk];exact mb
 refine cj hT kA hm Vz rfl aX rfl 60 Zm (fun _=>?_) K []
 have hlong:(af.aj
         [(0:Nat)<1,(0:Nat)<1,(0:Nat)<1,(0:Nat)<1,nl q.num.natAbs<2^40,nl r.num.natAbs<2^40,(0:Nat)<1,(0:Nat)<1,nl q.den<2^40,nl r.den<2^40,nl (q.num.natAbs*r.num.natAbs)<2^40,nl (q.den*r.den)<2^40,(0:Nat)<1]
         (af.aj [(0:Nat)<1]
          (af.leaf aq.ret
           [AV.rat (sQ (decide (q<0)!=decide (r<0)) (q.num.natAbs*r.num.natAbs) (q.den*r.den))
             (dx (sQ (decide (q<0)!=decide (r<0)) (q.num.natAbs*r.num.natAbs) (q.den*r.den)))]))).all fun _ us=>fQ us (.rat (q*r) (n+m)):=by
  simp only[af.all,az]
  exact⟨⟨aa,aa,aa,aa,a1,b1,aa,aa,a2,b2,m1,m2,aa⟩,aa,dF hv hz⟩
 refine⟨fun hb=>⟨⟨show 0<1 by omega,hb⟩,fun _=>⟨show 0<1 by omega,show 0<1 by omega,hzero (.inl ?_)⟩,fun h=>by simp at h⟩,fun hb=>⟨⟨show 0<1 by omega,hb,show 0<1 by omega⟩,fun hc=>⟨show 0<1 by omega,show 0<1 by omega,hzero (.inr ?_)⟩,fun hc=>⟨show 0<1 by omega,fun h1=>⟨show 0<1 by omega,fun h2=>?_,fun h2=>hlong⟩,fun h1=>hlong⟩⟩⟩
 ·have:=eq_of_beq hb
  exact nq.1 (jO.1 aa)
 ·have:=eq_of_beq (hH hc)
  exact nq.1 (jO.1 aa)
 ·obtain⟨q1,q2⟩:=oY h1
  obtain⟨r1,r2⟩:=oY h2
  obtain⟨wx,bx⟩:=mN q1 r1
  obtain⟨wd,bd⟩:=mN q2 r2
  have hd0:q.den*r.den≠0:=Nat.mul_ne_zero d1 d2
  rw[if_pos h1,if_pos h2,if_pos h1,if_pos h2,wx,wd]
  simp only[af.all,az,bw]
  exact⟨⟨aa,aa,aa,aa,aa⟩,aa,dF hv hz⟩
theorem A7 (q r:Rat) (hr:r≠0):sQ (decide (q<0)!=decide (r<0)) (q.num.natAbs*r.den) (q.den*r.num.natAbs)=q/r:=by
 have hn:r.num≠0:=fun h=>hr (Rat.num_eq_zero.1 h)
 have hi:r⁻¹=sQ (decide (r<0)) r.den r.num.natAbs:=by
  rw[<-jR r⁻¹]
  have e1:r⁻¹.num.natAbs=r.den:=by rw[Rat.num_inv,Int.natAbs_mul,Int.natAbs_natCast,Int.natAbs_sign_of_ne_zero hn,Nat.one_mul]
  have e2:r⁻¹.den=r.num.natAbs:=by rw[Rat.den_inv,if_neg hn]
  have e3:decide (r⁻¹<0)=decide (r<0):=by
   rw[decide_eq_decide,iT,iT,Rat.num_inv]
   have hd:=r.den_nz
   have hd':(0:Int)<(r.den:Int):=aa
   rcases Int.lt_trichotomy r.num 0 with h|h|h
   ·rw[Int.sign_eq_neg_one_of_neg h];omega
   ·exact absurd h hn
   ·rw[Int.sign_eq_one_of_pos h];omega
  rw[e1,e2,e3]
 rw[Rat.div_def,hi]
 conv=>rhs;rw[<-jR q]
 rw[Dd]
theorem DC (hn:n<2^42) (hm':m<2^42) (K:Nat):aO P 142 K [.rat q n,.rat r m] [] (aJ (.tuple [.rat (q/r) (n+m),.int .i64 (if r=0 then 3 else 0)]) []):=by
 refine jU fun⟨hq,hr,_⟩=>?_
 have hq:Sz q n:=hq
 have hr:Sz r m:=hr
 obtain⟨a1,a2,a3⟩:=Sz.jF hq aa
 obtain⟨b1,b2,b3⟩:=Sz.jF hr aa
 have d1:=q.den_nz
 have d2:=r.den_nz
 have m1:nl (q.num.natAbs*r.den)<2^40:=jz (n:=n+m) (by rw[Nat.pow_add];exact Nat.mul_lt_mul'' hq.1 hr.2) aa
 have m2:nl (q.den*r.num.natAbs)<2^40:=jz (n:=n+m) (by rw[Nat.pow_add];exact Nat.mul_lt_mul'' hq.2 hr.1) aa
 have hz:=hq.div hr
 have sg:∀{x:Rat},dm x=0↔x=0:=by intro x;unfold dm;grind
 refine cj hT kA hm Ss rfl aX rfl 60 abz (fun _=>?_) K []
 refine⟨⟨show 0<1 by omega,show m<2^44 by omega⟩,fun hb=>⟨show 0<1 by omega,show 0<1 by omega,?_,?_,trivial⟩,fun hb=>⟨show 0<1 by omega,?_⟩⟩
 ·have h0:r=0:=sg.1 (eq_of_beq hb)
  have e:q/r=0:=by rw[h0,Rat.div_def,Rat.inv_zero,Rat.mul_zero]
  obtain⟨k,hk⟩:∃k,n+m=k+1:=⟨n+m-1,by have:=hq.pos;omega⟩
  rw[e,hk];exact mb
 ·have h0:r=0:=sg.1 (eq_of_beq hb)
  exact bN (by rw[if_pos h0])
 have h0:r≠0:=fun h=>by
  rw[h]at hb
  simp[dm]at hb
 have hv:=A7 q r h0
 have he:bA (.int .i64 0) (.int .i64 (if r=0 then 3 else 0)):=bN (by rw[if_neg h0])
 have hlong:(af.aj
         [(0:Nat)<1,(0:Nat)<1,(0:Nat)<1,(0:Nat)<1,nl q.num.natAbs<2^40,nl r.den<2^40,(0:Nat)<1,(0:Nat)<1,nl q.den<2^40,nl r.num.natAbs<2^40,nl (q.num.natAbs*r.den)<2^40,nl (q.den*r.num.natAbs)<2^40,(0:Nat)<1]
         (af.aj [(0:Nat)<1]
          (af.leaf aq.ret
           [AV.rat (sQ (decide (q<0)!=decide (r<0)) (q.num.natAbs*r.den) (q.den*r.num.natAbs))
             (dx (sQ (decide (q<0)!=decide (r<0)) (q.num.natAbs*r.den) (q.den*r.num.natAbs))),.int .i64 0]))).all fun _ us=>fQ us (.tuple [.rat (q/r) (n+m),.int .i64 (if r=0 then 3 else 0)]):=by
  simp only[af.all,az]
  exact⟨⟨aa,aa,aa,aa,a1,b2,aa,aa,a2,b1,m1,m2,aa⟩,aa,dF hv hz,he,trivial⟩
 refine⟨fun h1=>⟨show 0<1 by omega,fun h2=>?_,fun h2=>hlong⟩,fun h1=>hlong⟩
 obtain⟨q1,q2⟩:=oY h1
 obtain⟨r1,r2⟩:=oY h2
 obtain⟨wx,bx⟩:=mN q1 r2
 obtain⟨wd,bd⟩:=mN q2 r1
 have hr0:r.num.natAbs≠0:=fun h=>h0 (nq.1 h)
 have hd0:q.den*r.num.natAbs≠0:=Nat.mul_ne_zero d1 hr0
 rw[if_pos h1,if_pos h2,if_pos h1,if_pos h2,wx,wd]
 simp only[af.all,az,bw]
 exact⟨⟨aa,aa,aa,aa,aa⟩,aa,dF hv hz,he,trivial⟩
end ops
def K9:Spec:=bR fun l=>match l with
 |[.int .i64 n]=>some (aJ (.rat (n:Rat) (max 1 (bJ n.natAbs))) [-2^63<=n,n<2^63])
 |_=>none
theorem ade:aY P K9 71:=by
 refine cD fun K args r hk hs _=>?_
 split at hs
 ·simp only[ay]at hs
  subst hs
  exact fun need=>WM need.1 need.2 K trivial
 ·simp at hs
end Go.Am.B
