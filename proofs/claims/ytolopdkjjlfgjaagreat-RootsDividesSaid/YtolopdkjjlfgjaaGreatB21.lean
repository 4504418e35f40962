/- rational.Add, Sub, Mul, Quo, Cmp, Min, Max, Int. -/
import Derived.Test.YtolopdkjjlfgjaaGreatB20
set_option linter.unusedVariables false
namespace Go.Am.B
open Go Go.Am.N AV Proofs.Tryz IntKind
theorem O8:aX 128 f128:=aZ func128
theorem OI:aX 143 f143:=aZ func143
theorem NU:aX 130 f130:=aZ func130
theorem Yr:aX 131 f131:=aZ func131
theorem ZF:aX 71 f71:=aZ func71
def Ly:Spec:=bU fun l=>match l with
 |[.rat q n,.rat r m,.bool s]=>some (aK (.rat (q+sQ s r.num.natAbs r.den) (n+m+1)) [n<2^42,m<2^42])
 |_=>none
def JB:Spec:=bU fun l=>match l with
 |[.rat q n,.rat r m]=>some (aK (.int .i64 (iy q r)) [n<2^42,m<2^42])
 |_=>none
abbrev BD:FuncId×Spec:=(166,HR)
def GA:bh:=(164,Ly)::(58,JB)::BD::(134,Iy)::(132,Eh)::(133,A9)::[]
theorem UA {q r:Rat} {n m:Nat}:bR T GA [] 60 f128 (aH f128) ⟨aT 0 [.rat q n,.rat r m],[],0⟩=
  let c1:Prop:=0<1;some (af.aj [c1,c1,c1,n<2^42,m<2^42,c1] (af.aj [c1] (af.leaf aq.ret [rat (q+sQ (decide (r<0)) r.num.natAbs r.den) (n+m+1)]))):=ah
theorem adv {q r:Rat} {n m:Nat}:bR T GA [] 60 f143 (aH f143) ⟨aT 0 [.rat q n,.rat r m],[],0⟩=
  let c1:Prop:=0<1;some (af.aj [c1,c1,c1,n<2^42,m<2^42,c1] (af.aj [c1] (af.leaf aq.ret [rat (q+sQ (!decide (r<0)) r.num.natAbs r.den) (n+m+1)]))):=ah
theorem adw {q r:Rat} {n m:Nat}:bR T GA [8] 60 f130 (aH f130) ⟨aT 0 [.rat q n,.rat r m],[],0⟩=
  let c1:Prop:=0<1;some (af.aj [c1,c1,m<2^42,n<2^42] (af.fork (decide (iy r q<0)) (af.aj [c1,c1] (af.aj [c1,m<2^44,c1] (af.aj [c1] (af.leaf aq.ret [rat r m])))) (af.aj [c1,n<2^44,c1] (af.aj [c1] (af.leaf aq.ret [rat q n]))))):=ah
theorem abf {q r:Rat} {n m:Nat}:bR T GA [8] 60 f131 (aH f131) ⟨aT 0 [.rat q n,.rat r m],[],0⟩=
  let c1:Prop:=0<1;some (af.aj [c1,c1,m<2^42,n<2^42] (af.fork (decide (iy r q>0)) (af.aj [c1,c1] (af.aj [c1,m<2^44,c1] (af.aj [c1] (af.leaf aq.ret [rat r m])))) (af.aj [c1,n<2^44,c1] (af.aj [c1] (af.leaf aq.ret [rat q n]))))):=ah
theorem ad9 {n:Int}:bR T GA [] 60 f71 (aH f71) ⟨aT 0 [.int .i64 n],[],0⟩=
  let c1:Rat:=sQ (decide (n<0)) n.natAbs 1;some (af.aj [-(2:Int)^63<=n,n<2^63,nl n.natAbs<2^40,nl 1<2^40,(0:Nat)<1] (af.aj [(0:Nat)<1] (af.leaf aq.ret [rat c1 (dB c1)]))):=ah
theorem Oh {q r:Rat} {n m:Nat}:bR T GQ [20,23,34,47,49,56,63,76] 60 f58 (aH f58) ⟨aT 0 [.rat q n,.rat r m],[],0⟩=
  let c14:af (List AV):=af.leaf aq.ret [int .i64 (0:Int)];let c13:Nat:=q.num.natAbs;let c12:Nat:=r.num.natAbs;let c11:af (List AV):=af.leaf aq.ret [int .i64 (1:Int)];let c10:Bool:=decide (q<0);let c9:af (List AV):=af.leaf aq.ret [int .i64 (-1:Int)];let c8:Nat:=if r.den=1 then 0 else r.den;let c7:Nat:=if q.den=1 then 0 else q.den;let c6:Nat:=2^40;let c5:Prop:=0<1;let c15:Int:=de (c13*r.den) (c12*q.den);let c4:Int:=u64.wrap ((↑(if eu q=true then c13 else 0):Int)*(↑(if eu r=true then r.den else 0):Int));let c3:Int:=u64.wrap ((↑(if eu r=true then c12 else 0):Int)*(↑(if eu q=true then q.den else 0):Int));let c2:af (List AV):=af.aj [c5,c5,nl c13<c6,nl r.den<c6,c5,c5,nl c12<c6,nl q.den<c6,nl (c13*r.den)<c6,nl (c12*q.den)<c6] (af.aj [c5] (af.fork c10 (af.leaf aq.ret [int .i64 (i64.wrap ((0:Int)-c15))]) (af.leaf aq.ret [int .i64 c15])));let c1:af (List AV):=af.fork (decide (c4<c3)) (af.aj [c5] (af.fork c10 c11 c9)) (af.fork (decide (c4>c3)) (af.aj [c5] (af.fork c10 c9 c11)) (af.aj [c5] (af.fork c10 c14 c14)));some (af.aj [c5,n<2^44,c5,m<2^44] (af.fork (dn q !=dn r) (af.fork (decide (dn q<dn r)) c9 c11) (af.aj [c5] (af.aj [c5,c5,nl c7<c6,nl c8<c6] (af.fork (decide (c7=c8)) (af.aj [c5,c5,nl c13<c6,nl c12<c6] (af.aj [c5] (af.fork c10 (af.leaf aq.ret [int .i64 (i64.wrap ((0:Int)-de c13 c12))]) (af.leaf aq.ret [int .i64 (de c13 c12)])))) (af.aj [c5] (af.fork (eu q) (af.aj [eu q=true] (af.fork (bif true then eu r else false) c1 c2)) (af.aj [eu q=false] (af.fork false c1 c2))))))))):=ah
theorem RW:bf P Ly 164:=by
 refine cJ fun K args r hk hs _=>?_
 split at hs
 ·simp only[ay]at hs
  subst hs
  exact fun need=>Ww need.1 need.2 K [] trivial
 ·simp at hs
theorem yR {q r:Rat} (h:dn q≠dn r):iy q r=if dn q<dn r then-1 else 1:=by
 unfold dn iy at*
 grind
theorem Vo {a b:Nat}:-de a b=de b a:=by unfold de;split<;>split<;>omega
theorem IN {a b k:Nat} (hk:0<k):de (a*k) (b*k)=de a b:=by
 unfold de
 simp only[Nat.mul_lt_mul_right hk]
theorem zQ {a b:Nat}:i64.wrap (0-de a b)=-de a b:=by
 have:de a b=-1\/de a b=0\/de a b=1:=by unfold de;split;exact .inl rfl;split;exact .inr (.inr rfl);exact .inr (.inl rfl)
 rcases this with h|h|h<;>rw[h]<;>rfl
theorem oe {q r:Rat} (h:dn q=dn r):iy q r=if q<0 then-de (q.num.natAbs*r.den) (r.num.natAbs*q.den)else de (q.num.natAbs*r.den) (r.num.natAbs*q.den):=by
 have h1:q<0↔r<0:=by unfold dn at h;grind
 have e1:∀{a b:Nat},(-(a:Int))*(b:Int)=-((a*b:Nat):Int):=fun {a b}=>by simp[Int.neg_mul]
 have e2:∀{a b:Nat},(a:Int)*(b:Int)=((a*b:Nat):Int):=fun {a b}=>by simp
 unfold iy
 by_cases hq:q<0
 ·have hr:=h1.1 hq
  have q1:q.num=-(q.num.natAbs:Int):=by have:=iW.1 hq;omega
  have r1:r.num=-(r.num.natAbs:Int):=by have:=iW.1 hr;omega
  have l1:q<r↔r.num.natAbs*q.den<q.num.natAbs*r.den:=by
   rw[Rat.lt_iff]
   conv=>lhs;rw[q1,r1,e1,e1]
   omega
  have l2:r<q↔q.num.natAbs*r.den<r.num.natAbs*q.den:=by
   rw[Rat.lt_iff]
   conv=>lhs;rw[q1,r1,e1,e1]
   omega
  rw[if_pos hq,Vo]
  unfold de
  simp only[l1,l2]
 ·have hr:¬r<0:=fun h=>hq (h1.2 h)
  have q1:q.num=(q.num.natAbs:Int):=by have:¬q.num<0:=fun h=>hq (iW.2 h);omega
  have r1:r.num=(r.num.natAbs:Int):=by have:¬r.num<0:=fun h=>hr (iW.2 h);omega
  have l1:q<r↔q.num.natAbs*r.den<r.num.natAbs*q.den:=by
   rw[Rat.lt_iff]
   conv=>lhs;rw[q1,r1,e2,e2]
   omega
  have l2:r<q↔r.num.natAbs*q.den<q.num.natAbs*r.den:=by
   rw[Rat.lt_iff]
   conv=>lhs;rw[q1,r1,e2,e2]
   omega
  rw[if_neg hq]
  unfold de
  simp only[l1,l2]
theorem KA {q r:Rat} {n m:Nat} (hn:n<2^42) (hm':m<2^42) (K:Nat) (pre:aE):aP P 58 K [.rat q n,.rat r m] pre (aK (.int .i64 (iy q r)) []):=by
 refine kg fun⟨hq,hr,_⟩=>?_
 have hq:Sz q n:=hq
 have hr:Sz r m:=hr
 obtain⟨a1,a2,a3⟩:=Sz.j0 hq aa
 obtain⟨b1,b2,b3⟩:=Sz.j0 hr aa
 have d1:=q.den_nz
 have d2:=r.den_nz
 have m1:nl (q.num.natAbs*r.den)<2^40:=jJ (n:=n+m) (by rw[Nat.pow_add];exact Nat.mul_lt_mul'' hq.1 hr.2) aa
 have m2:nl (r.num.natAbs*q.den)<2^40:=jJ (n:=m+n) (by rw[Nat.pow_add];exact Nat.mul_lt_mul'' hr.1 hq.2) aa
 refine bZ hT kE hm Wh rfl aW rfl 60 Oh (fun _=>?_) K pre
 simp only[af.all,aA,bne_iff_ne,ne_eq,bne_eq_false_iff_eq]
 refine⟨⟨aa,aa,aa,aa⟩,fun hs=>⟨fun hl=>bN ?_,fun hl=>bN ?_⟩,fun hs=>⟨aa,⟨aa,aa,a3,b3⟩,fun hd=>⟨⟨aa,aa,a1,b1⟩,aa,fun hc=>bN ?_,fun hc=>bN ?_⟩,fun hd=>⟨aa,fun hp=>⟨hp,fun hp2=>?_,fun hp2=>⟨⟨aa,aa,a1,b2,aa,aa,b1,a2,m1,m2⟩,aa,fun hc=>bN ?_,fun hc=>bN ?_⟩⟩,fun hp=>⟨hp,fun h=>by simp at h,fun _=>⟨⟨aa,aa,a1,b2,aa,aa,b1,a2,m1,m2⟩,aa,fun hc=>bN ?_,fun hc=>bN ?_⟩⟩⟩⟩⟩
 ·rw[yR hs,if_pos (of_decide_eq_true hl)]
 ·rw[yR hs,if_neg (of_decide_eq_false hl)]
 ·have hd:=of_decide_eq_true hd
  have e:q.den=r.den:=by split at hd<;>split at hd<;>omega
  rw[oe hs,if_pos (of_decide_eq_true hc),e,IN aa,zQ]
 ·have hd:=of_decide_eq_true hd
  have e:q.den=r.den:=by split at hd<;>split at hd<;>omega
  rw[oe hs,if_neg (of_decide_eq_false hc),e,IN aa]
 ·have hp2:=jf hp2
  obtain⟨q1,q2⟩:=oO hp
  obtain⟨r1,r2⟩:=oO hp2
  rw[if_pos hp,if_pos hp2,if_pos hp2,if_pos hp,(nk q1 r2).1,(nk r1 q2).1]
  have hcs:=oe hs
  generalize q.num.natAbs*r.den=X at*
  generalize r.num.natAbs*q.den=Y at*
  unfold de at hcs
  refine⟨fun h1=>⟨aa,fun hc=>bN ?_,fun hc=>bN ?_⟩,fun h1=>⟨fun h2=>⟨aa,fun hc=>bN ?_,fun hc=>bN ?_⟩,fun h2=>⟨aa,fun hc=>bN ?_,fun hc=>bN ?_⟩⟩⟩
  all_goals rw[hcs]
  ·rw[if_pos (of_decide_eq_true hc),if_pos (by have:=of_decide_eq_true h1;omega)];rfl
  ·rw[if_neg (of_decide_eq_false hc),if_pos (by have:=of_decide_eq_true h1;omega)]
  ·rw[if_pos (of_decide_eq_true hc),if_neg (by have:=of_decide_eq_false h1;omega),if_pos (by have:=of_decide_eq_true h2;omega)]
  ·rw[if_neg (of_decide_eq_false hc),if_neg (by have:=of_decide_eq_false h1;omega),if_pos (by have:=of_decide_eq_true h2;omega)]
  ·rw[if_pos (of_decide_eq_true hc),if_neg (by have:=of_decide_eq_false h1;omega),if_neg (by have:=of_decide_eq_false h2;omega)];rfl
  ·rw[if_neg (of_decide_eq_false hc),if_neg (by have:=of_decide_eq_false h1;omega),if_neg (by have:=of_decide_eq_false h2;omega)]
 ·rw[oe hs,if_pos (of_decide_eq_true hc),zQ]
 ·rw[oe hs,if_neg (of_decide_eq_false hc)]
 ·rw[oe hs,if_pos (of_decide_eq_true hc),zQ]
 ·rw[oe hs,if_neg (of_decide_eq_false hc)]
theorem Qq:bf P JB 58:=by
 refine cJ fun K args r hk hs _=>?_
 split at hs
 ·simp only[ay]at hs
  subst hs
  exact fun need=>KA need.1 need.2 K [] trivial
 ·simp at hs
theorem RZ:bf P BD.2 BD.1:=UG
theorem v9:bI P GA:=aL RW (aL Qq (aL RZ (aL adm (aL Kk (aL K3 b9)))))
section ops
variable {q r:Rat} {n m:Nat}
theorem NF (hn:n<2^42) (hm':m<2^42) (K:Nat):aP P 128 K [.rat q n,.rat r m] [] (aK (.rat (q+r) (n+m+1)) []):=by
 refine bZ hT v9 hm O8 rfl aW rfl 60 UA (fun _=>?_) K []
 simp only[af.all,aA,ki]
 exact⟨⟨aa,aa,aa,hn,hm',aa⟩,aa,.refl _⟩
theorem Ss (r:Rat):sQ (!decide (r<0)) r.num.natAbs r.den=-r:=by
 have h:=ki r
 conv=>rhs;rw[<-h]
 unfold sQ
 rw[Rat.neg_mkRat]
 congr 1
 unfold fZ
 by_cases h:r<0<;>simp[h]
theorem Rw (hn:n<2^42) (hm':m<2^42) (K:Nat):aP P 143 K [.rat q n,.rat r m] [] (aK (.rat (q-r) (n+m+1)) []):=by
 refine bZ hT v9 hm OI rfl aW rfl 60 adv (fun _=>?_) K []
 simp only[af.all,aA,Ss]
 exact⟨⟨aa,aa,aa,hn,hm',aa⟩,aa,ef (by rw[Rat.sub_eq_add_neg])⟩
def jm (q r:Rat):Rat:=if r<q then r else q
def je (q r:Rat):Rat:=if q<r then r else q
theorem yP {q r:Rat}:iy q r<0↔q<r:=by unfold iy;grind
theorem Kq {q r:Rat}:iy q r>0↔r<q:=by unfold iy;grind
theorem Wt (hn:n<2^42) (hm':m<2^42) (K:Nat):aP P 130 K [.rat q n,.rat r m] [] (aK (.rat (jm q r) (max n m)) []):=by
 refine bZ hT v9 hm NU rfl aW rfl 60 adw (fun _=>?_) K []
 simp only[af.all,aA,bw,bB,yP]
 refine⟨⟨aa,aa,hm',hn⟩,fun h=>⟨⟨aa,aa⟩,⟨aa,aa,aa⟩,aa,?_⟩,fun h=>⟨⟨aa,aa,aa⟩,aa,?_⟩⟩
 ·unfold jm;rw[if_pos h];exact mC (Nat.le_max_right _ _)
 ·unfold jm;rw[if_neg h];exact mC (Nat.le_max_left _ _)
theorem X9 (hn:n<2^42) (hm':m<2^42) (K:Nat):aP P 131 K [.rat q n,.rat r m] [] (aK (.rat (je q r) (max n m)) []):=by
 refine bZ hT v9 hm Yr rfl aW rfl 60 abf (fun _=>?_) K []
 simp only[af.all,aA,bw,bB,Kq]
 refine⟨⟨aa,aa,hm',hn⟩,fun h=>⟨⟨aa,aa⟩,⟨aa,aa,aa⟩,aa,?_⟩,fun h=>⟨⟨aa,aa,aa⟩,aa,?_⟩⟩
 ·unfold je;rw[if_pos h];exact mC (Nat.le_max_right _ _)
 ·unfold je;rw[if_neg h];exact mC (Nat.le_max_left _ _)
theorem PF {n:Int}:sQ (decide (n<0)) n.natAbs 1=(n:Rat):=by
 unfold sQ
 have:fZ (decide (n<0)) n.natAbs=n:=by unfold fZ;by_cases h:n<0<;>simp[h]<;>omega
 rw[this,Rat.mkRat_one]
theorem BZ {n:Int}:Sz (n:Rat) (max 1 (bK n.natAbs)):=by
 refine⟨?_,?_⟩
 ·rw[Rat.num_intCast]
  exact Nat.lt_of_lt_of_le (ji.1 aQ) (Nat.pow_le_pow_right aa (Nat.le_max_right _ _))
 ·rw[Rat.den_intCast]
  exact Nat.lt_of_lt_of_le (show 1<2^1 by omega) (Nat.pow_le_pow_right aa (Nat.le_max_left _ _))
theorem M9 {n:Int} (h1:-2^63<=n) (h2:n<2^63) (K:Nat):aP P 71 K [.int .i64 n] [] (aK (.rat (n:Rat) (max 1 (bK n.natAbs))) []):=by
 refine bZ hT v9 hm ZF rfl aW rfl 60 ad9 (fun _=>?_) K []
 simp only[af.all,aA,PF]
 exact⟨⟨h1,h2,jJ (n:=64) aa aa,by decide,aa⟩,aa,dK rfl BZ⟩
theorem Fl (hn:n<2^42) (hm':m<2^42) (K:Nat):aP P 129 K [.rat q n,.rat r m] [] (aK (.rat (q*r) (n+m)) []):=by
 refine kg fun⟨hq,hr,_⟩=>?_
 have hq:Sz q n:=hq
 have hr:Sz r m:=hr
 obtain⟨a1,a2,a3⟩:=Sz.j0 hq aa
 obtain⟨b1,b2,b3⟩:=Sz.j0 hr aa
 have d1:=q.den_nz
 have d2:=r.den_nz
 have m1:nl (q.num.natAbs*r.num.natAbs)<2^40:=jJ (n:=n+m) (by rw[Nat.pow_add];exact Nat.mul_lt_mul'' hq.1 hr.1) aa
 have m2:nl (q.den*r.den)<2^40:=jJ (n:=n+m) (by rw[Nat.pow_add];exact Nat.mul_lt_mul'' hq.2 hr.2) aa
 have hz:=hq.mul hr
 have hv:sQ (decide (q<0)!=decide (r<0)) (q.num.natAbs*r.num.natAbs) (q.den*r.den)=q*r:=by rw[<-CS,ki,ki]
 have hzero:q=0\/r=0->bA (.agg [.bool false,.mag 0,.mag 0]) (.rat (q*r) (n+m)):=by
  intro h
  have e:q*r=0:=by rcases h with h|h<;>subst h<;>simp
  obtain⟨k,hk⟩:∃k,n+m=k+1:=⟨n+m-1,by have:=hq.pos;omega⟩
  rw[e,hk];exact lV
 refine bZ hT kE hm abF rfl aW rfl 60 ade (fun _=>?_) K []
 have hlong:(af.aj
         [(0:Nat)<1,(0:Nat)<1,(0:Nat)<1,(0:Nat)<1,nl q.num.natAbs<2^40,nl r.num.natAbs<2^40,(0:Nat)<1,(0:Nat)<1,nl q.den<2^40,nl r.den<2^40,nl (q.num.natAbs*r.num.natAbs)<2^40,nl (q.den*r.den)<2^40,(0:Nat)<1]
         (af.aj [(0:Nat)<1]
          (af.leaf aq.ret
           [AV.rat (sQ (decide (q<0)!=decide (r<0)) (q.num.natAbs*r.num.natAbs) (q.den*r.den))
             (dB (sQ (decide (q<0)!=decide (r<0)) (q.num.natAbs*r.num.natAbs) (q.den*r.den)))]))).all fun _ us=>fX us (.rat (q*r) (n+m)):=by
  simp only[af.all,aA]
  exact⟨⟨aa,aa,aa,aa,a1,b1,aa,aa,a2,b2,m1,m2,aa⟩,aa,dK hv hz⟩
 refine⟨fun hb=>⟨⟨show 0<1 by omega,hb⟩,fun _=>⟨show 0<1 by omega,show 0<1 by omega,hzero (.inl ?_)⟩,fun h=>by simp at h⟩,fun hb=>⟨⟨show 0<1 by omega,hb,show 0<1 by omega⟩,fun hc=>⟨show 0<1 by omega,show 0<1 by omega,hzero (.inr ?_)⟩,fun hc=>⟨show 0<1 by omega,fun h1=>⟨show 0<1 by omega,fun h2=>?_,fun h2=>hlong⟩,fun h1=>hlong⟩⟩⟩
 ·have:=eq_of_beq hb
  exact nN.1 (jE.1 aa)
 ·have:=eq_of_beq (ic hc)
  exact nN.1 (jE.1 aa)
 ·obtain⟨q1,q2⟩:=oO h1
  obtain⟨r1,r2⟩:=oO h2
  obtain⟨wx,bx⟩:=nk q1 r1
  obtain⟨wd,bd⟩:=nk q2 r2
  have hd0:q.den*r.den≠0:=Nat.mul_ne_zero d1 d2
  rw[if_pos h1,if_pos h2,if_pos h1,if_pos h2,wx,wd]
  simp only[af.all,aA,bu]
  exact⟨⟨aa,aa,aa,aa,aa⟩,aa,dK hv hz⟩
theorem Bl (q r:Rat) (hr:r≠0):sQ (decide (q<0)!=decide (r<0)) (q.num.natAbs*r.den) (q.den*r.num.natAbs)=q/r:=by
 have hn:r.num≠0:=fun h=>hr (Rat.num_eq_zero.1 h)
 have hi:r⁻¹=sQ (decide (r<0)) r.den r.num.natAbs:=by
  rw[<-ki r⁻¹]
  have e1:r⁻¹.num.natAbs=r.den:=by rw[Rat.num_inv,Int.natAbs_mul,Int.natAbs_natCast,Int.natAbs_sign_of_ne_zero hn,Nat.one_mul]
  have e2:r⁻¹.den=r.num.natAbs:=by rw[Rat.den_inv,if_neg hn]
  have e3:decide (r⁻¹<0)=decide (r<0):=by
   rw[decide_eq_decide,iW,iW,Rat.num_inv]
   have hd:=r.den_nz
   have hd':(0:Int)<(r.den:Int):=aa
   rcases Int.lt_trichotomy r.num 0 with h|h|h
   ·rw[Int.sign_eq_neg_one_of_neg h];omega
   ·exact absurd h hn
   ·rw[Int.sign_eq_one_of_pos h];omega
  rw[e1,e2,e3]
 rw[Rat.div_def,hi]
 conv=>rhs;rw[<-ki q]
 rw[CS]
theorem Cb (hn:n<2^42) (hm':m<2^42) (K:Nat):aP P 142 K [.rat q n,.rat r m] [] (aK (.tuple [.rat (q/r) (n+m),.int .i64 (if r=0 then 3 else 0)]) []):=by
 refine kg fun⟨hq,hr,_⟩=>?_
 have hq:Sz q n:=hq
 have hr:Sz r m:=hr
 obtain⟨a1,a2,a3⟩:=Sz.j0 hq aa
 obtain⟨b1,b2,b3⟩:=Sz.j0 hr aa
 have d1:=q.den_nz
 have d2:=r.den_nz
 have m1:nl (q.num.natAbs*r.den)<2^40:=jJ (n:=n+m) (by rw[Nat.pow_add];exact Nat.mul_lt_mul'' hq.1 hr.2) aa
 have m2:nl (q.den*r.num.natAbs)<2^40:=jJ (n:=n+m) (by rw[Nat.pow_add];exact Nat.mul_lt_mul'' hq.2 hr.1) aa
 have hz:=hq.div hr
 have sg:∀{x:Rat},dn x=0↔x=0:=by intro x;unfold dn;grind
 refine bZ hT kE hm Oq rfl aW rfl 60 Zi (fun _=>?_) K []
 refine⟨⟨show 0<1 by omega,show m<2^44 by omega⟩,fun hb=>⟨show 0<1 by omega,show 0<1 by omega,?_,?_,trivial⟩,fun hb=>⟨show 0<1 by omega,?_⟩⟩
 ·have h0:r=0:=sg.1 (eq_of_beq hb)
  have e:q/r=0:=by rw[h0,Rat.div_def,Rat.inv_zero,Rat.mul_zero]
  obtain⟨k,hk⟩:∃k,n+m=k+1:=⟨n+m-1,by have:=hq.pos;omega⟩
  rw[e,hk];exact lV
 ·have h0:r=0:=sg.1 (eq_of_beq hb)
  exact bN (by rw[if_pos h0])
 have h0:r≠0:=fun h=>by
  rw[h]at hb
  simp[dn]at hb
 have hv:=Bl q r h0
 have he:bA (.int .i64 0) (.int .i64 (if r=0 then 3 else 0)):=bN (by rw[if_neg h0])
 have hlong:(af.aj
         [(0:Nat)<1,(0:Nat)<1,(0:Nat)<1,(0:Nat)<1,nl q.num.natAbs<2^40,nl r.den<2^40,(0:Nat)<1,(0:Nat)<1,nl q.den<2^40,nl r.num.natAbs<2^40,nl (q.num.natAbs*r.den)<2^40,nl (q.den*r.num.natAbs)<2^40,(0:Nat)<1]
         (af.aj [(0:Nat)<1]
          (af.leaf aq.ret
           [AV.rat (sQ (decide (q<0)!=decide (r<0)) (q.num.natAbs*r.den) (q.den*r.num.natAbs))
             (dB (sQ (decide (q<0)!=decide (r<0)) (q.num.natAbs*r.den) (q.den*r.num.natAbs))),.int .i64 0]))).all fun _ us=>fX us (.tuple [.rat (q/r) (n+m),.int .i64 (if r=0 then 3 else 0)]):=by
  simp only[af.all,aA]
  exact⟨⟨aa,aa,aa,aa,a1,b2,aa,aa,a2,b1,m1,m2,aa⟩,aa,dK hv hz,he,trivial⟩
 refine⟨fun h1=>⟨show 0<1 by omega,fun h2=>?_,fun h2=>hlong⟩,fun h1=>hlong⟩
 obtain⟨q1,q2⟩:=oO h1
 obtain⟨r1,r2⟩:=oO h2
 obtain⟨wx,bx⟩:=nk q1 r2
 obtain⟨wd,bd⟩:=nk q2 r1
 have hr0:r.num.natAbs≠0:=fun h=>h0 (nN.1 h)
 have hd0:q.den*r.num.natAbs≠0:=Nat.mul_ne_zero d1 hr0
 rw[if_pos h1,if_pos h2,if_pos h1,if_pos h2,wx,wd]
 simp only[af.all,aA,bu]
 exact⟨⟨aa,aa,aa,aa,aa⟩,aa,dK hv hz,he,trivial⟩
end ops
def IT:Spec:=bU fun l=>match l with
 |[.int .i64 n]=>some (aK (.rat (n:Rat) (max 1 (bK n.natAbs))) [-2^63<=n,n<2^63])
 |_=>none
theorem aaK:bf P IT 71:=by
 refine cJ fun K args r hk hs _=>?_
 split at hs
 ·simp only[ay]at hs
  subst hs
  exact fun need=>M9 need.1 need.2 K trivial
 ·simp at hs
end Go.Am.B
