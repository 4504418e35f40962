/- rational.Add, Sub, Mul, Quo, Cmp, Min, Max, Int. -/
import Derived.Test.YtppeigelbecpbaaGreatB20
set_option linter.unusedVariables false
namespace Go.Am.B
open Go Go.Am.N AV
theorem WE:aP P wo vO (au vO):=aQ ac9 (by kernel_rfl) (by kernel_rfl) (by kernel_rfl)
theorem Vq:aP P zT yG (au yG):=aQ Wx (by kernel_rfl) (by kernel_rfl) (by kernel_rfl)
theorem adC:aP P Dh Ak (au Ak):=aQ Vu (by kernel_rfl) (by kernel_rfl) (by kernel_rfl)
theorem RV:aP P C7 Aq (au Aq):=aQ Wt (by kernel_rfl) (by kernel_rfl) (by kernel_rfl)
theorem agk:aP P qC vG (au vG):=aQ Ug (by kernel_rfl) (by kernel_rfl) (by kernel_rfl)
def Ky:Spec:=bE fun l=>match l with
 |[.rat q n,.rat r m,.bool s]=>some (aG (.rat (q+sQ s r.num.natAbs r.den) (n+m+1)) [n<2^42,m<2^42])
 |_=>none
def Jd:Spec:=bE fun l=>match l with
 |[.rat q n,.rat r m]=>some (aG (.int .i64 (dc q r)) [n<2^42,m<2^42])
 |_=>none
abbrev Ej:FuncId×Spec:=(zF,ME)
def GA:aS:=(wP,Ky)::(jD,Jd)::Ej::(xy,KL)::(r7,FJ)::(tL,F6)::[]
theorem Yg {q r:Rat} {n m:Nat}:bC T GA [] 60 vO (au vO) ⟨aN 0 [.rat q n,.rat r m],[],0⟩=
  let c1:Prop:=0<1;some (aa.ag [c1,c1,c1,n<2^42,m<2^42,c1] (aa.ag [c1] (aa.leaf ak.ret [rat (q+sQ (decide (r<0)) r.num.natAbs r.den) (n+m+1)]))):=by kernel_rfl
theorem Yy {q r:Rat} {n m:Nat}:bC T GA [] 60 yG (au yG) ⟨aN 0 [.rat q n,.rat r m],[],0⟩=
  let c1:Prop:=0<1;some (aa.ag [c1,c1,c1,n<2^42,m<2^42,c1] (aa.ag [c1] (aa.leaf ak.ret [rat (q+sQ (!decide (r<0)) r.num.natAbs r.den) (n+m+1)]))):=by kernel_rfl
theorem X6 {q r:Rat} {n m:Nat}:bC T GA [8] 60 Ak (au Ak) ⟨aN 0 [.rat q n,.rat r m],[],0⟩=
  let c1:Prop:=0<1;some (aa.ag [c1,c1,m<2^42,n<2^42] (aa.fork (decide (dc r q<(0:Int))) (aa.ag [c1,c1] (aa.ag [c1,m<2^44,c1] (aa.ag [c1] (aa.leaf ak.ret [rat r m])))) (aa.ag [c1,n<2^44,c1] (aa.ag [c1] (aa.leaf ak.ret [rat q n]))))):=by kernel_rfl
theorem WC {q r:Rat} {n m:Nat}:bC T GA [8] 60 Aq (au Aq) ⟨aN 0 [.rat q n,.rat r m],[],0⟩=
  let c1:Prop:=0<1;some (aa.ag [c1,c1,m<2^42,n<2^42] (aa.fork (decide (dc r q>(0:Int))) (aa.ag [c1,c1] (aa.ag [c1,m<2^44,c1] (aa.ag [c1] (aa.leaf ak.ret [rat r m])))) (aa.ag [c1,n<2^44,c1] (aa.ag [c1] (aa.leaf ak.ret [rat q n]))))):=by kernel_rfl
theorem ahL {n:Int}:bC T GA [] 60 vG (au vG) ⟨aN 0 [.int .i64 n],[],0⟩=
  let c1:Rat:=sQ (decide (n<(0:Int))) n.natAbs 1;some (aa.ag [-(2:Int)^63≤n,n<(2:Int)^63,nl n.natAbs<2^40,nl 1<2^40,(0:Nat)<1] (aa.ag [(0:Nat)<1] (aa.leaf ak.ret [rat c1 (cz c1)]))):=by kernel_rfl
theorem ae4 {q r:Rat} {n m:Nat}:bC T GQ [20,23,34,47,49,56,63,76] 60 z7 (au z7) ⟨aN 0 [.rat q n,.rat r m],[],0⟩=
  let c14 : aa (List AV) := aa.leaf ak.ret [int IntKind.i64 (0 : Int)]; let c13 : Nat := q.num.natAbs; let c12 : Nat := r.num.natAbs; let c11 : aa (List AV) := aa.leaf ak.ret [int IntKind.i64 (1 : Int)]; let c10 : Bool := decide (q < 0); let c9 : aa (List AV) := aa.leaf ak.ret [int IntKind.i64 (-1 : Int)]; let c8 : Nat := if r.den = 1 then 0 else r.den; let c7 : Nat := if q.den = 1 then 0 else q.den; let c6 : Nat := 2 ^ 40; let c5 : Prop := 0 < 1; let c15 : Int := cH (c13 * r.den) (c12 * q.den); let c4 : Int := IntKind.u64.wrap ((↑(if dA q = true then c13 else 0) : Int) * (↑(if dA r = true then r.den else 0) : Int)); let c3 : Int := IntKind.u64.wrap ((↑(if dA r = true then c12 else 0) : Int) * (↑(if dA q = true then q.den else 0) : Int)); let c2 : aa (List AV) := aa.ag [c5, c5, nl c13 < c6, nl r.den < c6, c5, c5, nl c12 < c6, nl q.den < c6, nl (c13 * r.den) < c6, nl (c12 * q.den) < c6] (aa.ag [c5] (aa.fork c10 (aa.leaf ak.ret [int IntKind.i64 (IntKind.i64.wrap ((0 : Int) - c15))]) (aa.leaf ak.ret [int IntKind.i64 c15]))); let c1 : aa (List AV) := aa.fork (decide (c4 < c3)) (aa.ag [c5] (aa.fork c10 c11 c9)) (aa.fork (decide (c4 > c3)) (aa.ag [c5] (aa.fork c10 c9 c11)) (aa.ag [c5] (aa.fork c10 c14 c14))); some (aa.ag [c5, n < 2 ^ 44, c5, m < 2 ^ 44] (aa.fork (ey q != ey r) (aa.fork (decide (ey q < ey r)) c9 c11) (aa.ag [c5] (aa.ag [c5, c5, nl c7 < c6, nl c8 < c6] (aa.fork (decide (c7 = c8)) (aa.ag [c5, c5, nl c13 < c6, nl c12 < c6] (aa.ag [c5] (aa.fork c10 (aa.leaf ak.ret [int IntKind.i64 (IntKind.i64.wrap ((0 : Int) - cH c13 c12))]) (aa.leaf ak.ret [int IntKind.i64 (cH c13 c12)])))) (aa.ag [c5] (aa.fork (dA q) (aa.ag [dA q = true] (aa.fork (bif true then dA r else false) c1 c2)) (aa.ag [dA q = false] (aa.fork false c1 c2))))))))) := by kernel_rfl
theorem afc:∀K args pre r,Ky K args pre=some r→aA P wP K args pre r:=by
 refine bX fun K args r hk hs _=>?_
 split at hs
 ·simp only[Option.some.injEq]at hs
  subst hs
  exact fun need=>aed need.1 need.2 K [] trivial
 ·simp at hs
theorem BG {q r:Rat} (h:ey q≠ey r):dc q r=if ey q<ey r then-1 else 1:=by
 unfold ey dc at*
 grind
theorem aby {a b:Nat}:-cH a b=cH b a:=by unfold cH;split<;>split<;>omega
theorem Oj {a b k:Nat} (hk:0<k):cH (a*k) (b*k)=cH a b:=by
 unfold cH
 simp only[Nat.mul_lt_mul_right hk]
theorem Bq {a b:Nat}:IntKind.i64.wrap (0-cH a b)=-cH a b:=by
 have:cH a b=-1∨cH a b=0∨cH a b=1:=by unfold cH;split;exact .inl rfl;split;exact .inr (.inr rfl);exact .inr (.inl rfl)
 rcases this with h|h|h<;>rw[h]<;>rfl
theorem nq {q r:Rat} (h:ey q=ey r):dc q r=if q<0 then-cH (q.num.natAbs*r.den) (r.num.natAbs*q.den)else cH (q.num.natAbs*r.den) (r.num.natAbs*q.den):=by
 have h1:q<0↔r<0:=by unfold ey at h;grind
 have e1:∀{a b:Nat},(-(a:Int))*(b:Int)=-((a*b:Nat):Int):=fun {a b}=>by simp[Int.neg_mul]
 have e2:∀{a b:Nat},(a:Int)*(b:Int)=((a*b:Nat):Int):=fun {a b}=>by simp
 unfold dc
 by_cases hq:q<0
 ·have hr:=h1.1 hq
  have q1:q.num=-(q.num.natAbs:Int):=by have:=iu.1 hq;omega
  have r1:r.num=-(r.num.natAbs:Int):=by have:=iu.1 hr;omega
  have l1:q<r↔r.num.natAbs*q.den<q.num.natAbs*r.den:=by
   rw[Rat.lt_iff]
   conv=>lhs;rw[q1,r1,e1,e1]
   omega
  have l2:r<q↔q.num.natAbs*r.den<r.num.natAbs*q.den:=by
   rw[Rat.lt_iff]
   conv=>lhs;rw[q1,r1,e1,e1]
   omega
  rw[if_pos hq,aby]
  unfold cH
  simp only[l1,l2]
 ·have hr:¬r<0:=fun h=>hq (h1.2 h)
  have q1:q.num=(q.num.natAbs:Int):=by have:¬q.num<0:=fun h=>hq (iu.2 h);omega
  have r1:r.num=(r.num.natAbs:Int):=by have:¬r.num<0:=fun h=>hr (iu.2 h);omega
  have l1:q<r↔q.num.natAbs*r.den<r.num.natAbs*q.den:=by
   rw[Rat.lt_iff]
   conv=>lhs;rw[q1,r1,e2,e2]
   omega
  have l2:r<q↔r.num.natAbs*q.den<q.num.natAbs*r.den:=by
   rw[Rat.lt_iff]
   conv=>lhs;rw[q1,r1,e2,e2]
   omega
  rw[if_neg hq]
  unfold cH
  simp only[l1,l2]
theorem G8 {q r:Rat} {n m:Nat} (hn:n<2^42) (hm':m<2^42) (K:Nat) (pre:aC):aA P jD K [.rat q n,.rat r m] pre (aG (.int .i64 (dc q r)) []):=by
 refine iC fun⟨hq,hr,_⟩=>?_
 have hq:Sz q n:=hq
 have hr:Sz r m:=hr
 obtain⟨a1,a2,a3⟩:=Sz.iJ hq (by omega)
 obtain⟨b1,b2,b3⟩:=Sz.iJ hr (by omega)
 have d1:=q.den_nz
 have d2:=r.den_nz
 have m1:nl (q.num.natAbs*r.den)<2^40:=ju (n:=n+m) (by rw[Nat.pow_add];exact Nat.mul_lt_mul'' hq.1 hr.2) (by omega)
 have m2:nl (r.num.natAbs*q.den)<2^40:=ju (n:=m+n) (by rw[Nat.pow_add];exact Nat.mul_lt_mul'' hr.1 hq.2) (by omega)
 refine bJ hT kO hm ZA rfl (of_decide_eq_true (by kernel_rfl)) rfl 60 ae4 (fun _=>?_) K pre
 simp only[aa.all,ax,bne_iff_ne,ne_eq,bne_eq_false_iff_eq]
 refine⟨⟨by omega,by omega,by omega,by omega⟩,fun hs=>⟨fun hl=>bt ?_,fun hl=>bt ?_⟩,fun hs=>⟨by omega,⟨by omega,by omega,a3,b3⟩,fun hd=>⟨⟨by omega,by omega,a1,b1⟩,by omega,fun hc=>bt ?_,fun hc=>bt ?_⟩,fun hd=>⟨by omega,fun hp=>⟨hp,fun hp2=>?_,fun hp2=>⟨⟨by omega,by omega,a1,b2,by omega,by omega,b1,a2,m1,m2⟩,by omega,fun hc=>bt ?_,fun hc=>bt ?_⟩⟩,fun hp=>⟨hp,fun h=>by simp at h,fun _=>⟨⟨by omega,by omega,a1,b2,by omega,by omega,b1,a2,m1,m2⟩,by omega,fun hc=>bt ?_,fun hc=>bt ?_⟩⟩⟩⟩⟩
 ·rw[BG hs,if_pos (of_decide_eq_true hl)]
 ·rw[BG hs,if_neg (of_decide_eq_false hl)]
 ·have hd:=of_decide_eq_true hd
  have e:q.den=r.den:=by split at hd<;>split at hd<;>omega
  rw[nq hs,if_pos (of_decide_eq_true hc),e,Oj (by omega),Bq]
 ·have hd:=of_decide_eq_true hd
  have e:q.den=r.den:=by split at hd<;>split at hd<;>omega
  rw[nq hs,if_neg (of_decide_eq_false hc),e,Oj (by omega)]
 ·have hp2:=iR hp2
  obtain⟨q1,q2⟩:=oJ hp
  obtain⟨r1,r2⟩:=oJ hp2
  rw[if_pos hp,if_pos hp2,if_pos hp2,if_pos hp,(nN q1 r2).1,(nN r1 q2).1]
  have hcs:=nq hs
  generalize q.num.natAbs*r.den=X at*
  generalize r.num.natAbs*q.den=Y at*
  unfold cH at hcs
  refine⟨fun h1=>⟨by omega,fun hc=>bt ?_,fun hc=>bt ?_⟩,fun h1=>⟨fun h2=>⟨by omega,fun hc=>bt ?_,fun hc=>bt ?_⟩,fun h2=>⟨by omega,fun hc=>bt ?_,fun hc=>bt ?_⟩⟩⟩
  all_goals rw[hcs]
  ·rw[if_pos (of_decide_eq_true hc),if_pos (by have:=of_decide_eq_true h1;omega)];rfl
  ·rw[if_neg (of_decide_eq_false hc),if_pos (by have:=of_decide_eq_true h1;omega)]
  ·rw[if_pos (of_decide_eq_true hc),if_neg (by have:=of_decide_eq_false h1;omega),if_pos (by have:=of_decide_eq_true h2;omega)]
  ·rw[if_neg (of_decide_eq_false hc),if_neg (by have:=of_decide_eq_false h1;omega),if_pos (by have:=of_decide_eq_true h2;omega)]
  ·rw[if_pos (of_decide_eq_true hc),if_neg (by have:=of_decide_eq_false h1;omega),if_neg (by have:=of_decide_eq_false h2;omega)];rfl
  ·rw[if_neg (of_decide_eq_false hc),if_neg (by have:=of_decide_eq_false h1;omega),if_neg (by have:=of_decide_eq_false h2;omega)]
 ·rw[nq hs,if_pos (of_decide_eq_true hc),Bq]
 ·rw[nq hs,if_neg (of_decide_eq_false hc)]
 ·rw[nq hs,if_pos (of_decide_eq_true hc),Bq]
 ·rw[nq hs,if_neg (of_decide_eq_false hc)]
theorem adU:∀K args pre r,Jd K args pre=some r→aA P jD K args pre r:=by
 refine bX fun K args r hk hs _=>?_
 split at hs
 ·simp only[Option.some.injEq]at hs
  subst hs
  exact fun need=>G8 need.1 need.2 K [] trivial
 ·simp at hs
theorem aeV:∀K args pre r,Ej.2 K args pre=some r→aA P Ej.1 K args pre r:=aay
theorem zD:aW P GA:=aH afc (aH adU (aH aeV (aH ahY (aH MN (aH LI bp)))))
section ops
variable {q r:Rat} {n m:Nat}
theorem KN (hn:n<2^42) (hm':m<2^42) (K:Nat):aA P wo K [.rat q n,.rat r m] [] (aG (.rat (q+r) (n+m+1)) []):=by
 refine bJ hT zD hm WE rfl (of_decide_eq_true (by kernel_rfl)) rfl 60 Yg (fun _=>?_) K []
 simp only[aa.all,ax,jR]
 exact⟨⟨by omega,by omega,by omega,hn,hm',by omega⟩,by omega,.refl _⟩
theorem aaH (r:Rat):sQ (!decide (r<0)) r.num.natAbs r.den=-r:=by
 have h:=jR r
 conv=>rhs;rw[←h]
 unfold sQ
 rw[Rat.neg_mkRat]
 congr 1
 unfold fk
 by_cases h:r<0<;>simp[h]
theorem M5 (hn:n<2^42) (hm':m<2^42) (K:Nat):aA P zT K [.rat q n,.rat r m] [] (aG (.rat (q-r) (n+m+1)) []):=by
 refine bJ hT zD hm Vq rfl (of_decide_eq_true (by kernel_rfl)) rfl 60 Yy (fun _=>?_) K []
 simp only[aa.all,ax,aaH]
 exact⟨⟨by omega,by omega,by omega,hn,hm',by omega⟩,by omega,cX (by rw[Rat.sub_eq_add_neg])⟩
def CS (q r:Rat):Rat:=if r<q then r else q
def BN (q r:Rat):Rat:=if q<r then r else q
theorem lG {q r:Rat}:dc q r<0↔q<r:=by unfold dc;grind
theorem qe {q r:Rat}:dc q r>0↔r<q:=by unfold dc;grind
theorem acS (hn:n<2^42) (hm':m<2^42) (K:Nat):aA P Dh K [.rat q n,.rat r m] [] (aG (.rat (CS q r) (max n m)) []):=by
 refine bJ hT zD hm adC rfl (of_decide_eq_true (by kernel_rfl)) rfl 60 X6 (fun _=>?_) K []
 simp only[aa.all,ax,decide_eq_true_eq,decide_eq_false_iff_not,lG]
 refine⟨⟨by omega,by omega,hm',hn⟩,fun h=>⟨⟨by omega,by omega⟩,⟨by omega,by omega,by omega⟩,by omega,?_⟩,fun h=>⟨⟨by omega,by omega,by omega⟩,by omega,?_⟩⟩
 ·unfold CS;rw[if_pos h];exact fe (Nat.le_max_right _ _)
 ·unfold CS;rw[if_neg h];exact fe (Nat.le_max_left _ _)
theorem VP (hn:n<2^42) (hm':m<2^42) (K:Nat):aA P C7 K [.rat q n,.rat r m] [] (aG (.rat (BN q r) (max n m)) []):=by
 refine bJ hT zD hm RV rfl (of_decide_eq_true (by kernel_rfl)) rfl 60 WC (fun _=>?_) K []
 simp only[aa.all,ax,decide_eq_true_eq,decide_eq_false_iff_not,qe]
 refine⟨⟨by omega,by omega,hm',hn⟩,fun h=>⟨⟨by omega,by omega⟩,⟨by omega,by omega,by omega⟩,by omega,?_⟩,fun h=>⟨⟨by omega,by omega,by omega⟩,by omega,?_⟩⟩
 ·unfold BN;rw[if_pos h];exact fe (Nat.le_max_right _ _)
 ·unfold BN;rw[if_neg h];exact fe (Nat.le_max_left _ _)
theorem acE {n:Int}:sQ (decide (n<0)) n.natAbs 1=(n:Rat):=by
 unfold sQ
 have:fk (decide (n<0)) n.natAbs=n:=by unfold fk;by_cases h:n<0<;>simp[h]<;>omega
 rw[this,Rat.mkRat_one]
theorem IJ {n:Int}:Sz (n:Rat) (max 1 (bu n.natAbs)):=by
 refine⟨?_,?_⟩
 ·rw[Rat.num_intCast]
  exact Nat.lt_of_lt_of_le (iH.1 (Nat.le_refl _)) (Nat.pow_le_pow_right (by omega) (Nat.le_max_right _ _))
 ·rw[Rat.den_intCast]
  exact Nat.lt_of_lt_of_le (show 1<2^1 by omega) (Nat.pow_le_pow_right (by omega) (Nat.le_max_left _ _))
theorem HG {n:Int} (h1:-2^63≤n) (h2:n<2^63) (K:Nat):aA P qC K [.int .i64 n] [] (aG (.rat (n:Rat) (max 1 (bu n.natAbs))) []):=by
 refine bJ hT zD hm agk rfl (of_decide_eq_true (by kernel_rfl)) rfl 60 ahL (fun _=>?_) K []
 simp only[aa.all,ax,acE]
 exact⟨⟨h1,h2,ju (n:=64) (by omega) (by omega),by decide,by omega⟩,by omega,ew rfl IJ⟩
theorem JZ (hn:n<2^42) (hm':m<2^42) (K:Nat):aA P AI K [.rat q n,.rat r m] [] (aG (.rat (q*r) (n+m)) []):=by
 refine iC fun⟨hq,hr,_⟩=>?_
 have hq:Sz q n:=hq
 have hr:Sz r m:=hr
 obtain⟨a1,a2,a3⟩:=Sz.iJ hq (by omega)
 obtain⟨b1,b2,b3⟩:=Sz.iJ hr (by omega)
 have d1:=q.den_nz
 have d2:=r.den_nz
 have m1:nl (q.num.natAbs*r.num.natAbs)<2^40:=ju (n:=n+m) (by rw[Nat.pow_add];exact Nat.mul_lt_mul'' hq.1 hr.1) (by omega)
 have m2:nl (q.den*r.den)<2^40:=ju (n:=n+m) (by rw[Nat.pow_add];exact Nat.mul_lt_mul'' hq.2 hr.2) (by omega)
 have hz:=hq.mul hr
 have hv:sQ (decide (q<0)!=decide (r<0)) (q.num.natAbs*r.num.natAbs) (q.den*r.den)=q*r:=by rw[←HA,jR,jR]
 have hzero:q=0∨r=0→bw (.agg [.bool false,.mag 0,.mag 0]) (.rat (q*r) (n+m)):=by
  intro h
  have e:q*r=0:=by rcases h with h|h<;>subst h<;>simp
  obtain⟨k,hk⟩:∃k,n+m=k+1:=⟨n+m-1,by have:=hq.pos;omega⟩
  rw[e,hk];exact lf
 refine bJ hT kO hm ako rfl (of_decide_eq_true (by kernel_rfl)) rfl 60 XG (fun _=>?_) K []
 have hlong:(aa.ag
         [(0:Nat)<1,(0:Nat)<1,(0:Nat)<1,(0:Nat)<1,nl q.num.natAbs<2^40,nl r.num.natAbs<2^40,(0:Nat)<1,(0:Nat)<1,nl q.den<2^40,nl r.den<2^40,nl (q.num.natAbs*r.num.natAbs)<2^40,nl (q.den*r.den)<2^40,(0:Nat)<1]
         (aa.ag [(0:Nat)<1]
          (aa.leaf ak.ret
           [AV.rat (sQ (decide (q<(0:Rat))!=decide (r<(0:Rat))) (q.num.natAbs*r.num.natAbs) (q.den*r.den))
             (cz (sQ (decide (q<(0:Rat))!=decide (r<(0:Rat))) (q.num.natAbs*r.num.natAbs) (q.den*r.den)))]))).all fun _ us=>dI us (.rat (q*r) (n+m)):=by
  simp only[aa.all,ax]
  exact⟨⟨by omega,by omega,by omega,by omega,a1,b1,by omega,by omega,a2,b2,m1,m2,by omega⟩,by omega,ew hv hz⟩
 refine⟨fun hb=>⟨⟨show 0<1 by omega,hb⟩,fun _=>⟨show 0<1 by omega,show 0<1 by omega,hzero (.inl ?_)⟩,fun h=>by simp at h⟩,fun hb=>⟨⟨show 0<1 by omega,hb,show 0<1 by omega⟩,fun hc=>⟨show 0<1 by omega,show 0<1 by omega,hzero (.inr ?_)⟩,fun hc=>⟨show 0<1 by omega,fun h1=>⟨show 0<1 by omega,fun h2=>?_,fun h2=>hlong⟩,fun h1=>hlong⟩⟩⟩
 ·have:=eq_of_beq hb
  exact me.1 (iL.1 (by omega))
 ·have:=eq_of_beq (gJ hc)
  exact me.1 (iL.1 (by omega))
 ·obtain⟨q1,q2⟩:=oJ h1
  obtain⟨r1,r2⟩:=oJ h2
  obtain⟨wx,bx⟩:=nN q1 r1
  obtain⟨wd,bd⟩:=nN q2 r2
  have hd0:q.den*r.den≠0:=Nat.mul_ne_zero d1 d2
  rw[if_pos h1,if_pos h2,if_pos h1,if_pos h2,wx,wd]
  simp only[aa.all,ax,Int.toNat_natCast]
  exact⟨⟨by omega,by omega,by omega,by omega,by omega⟩,by omega,ew hv hz⟩
theorem Gn (q r:Rat) (hr:r≠0):sQ (decide (q<0)!=decide (r<0)) (q.num.natAbs*r.den) (q.den*r.num.natAbs)=q/r:=by
 have hn:r.num≠0:=fun h=>hr (Rat.num_eq_zero.1 h)
 have hi:r⁻¹=sQ (decide (r<0)) r.den r.num.natAbs:=by
  rw[←jR r⁻¹]
  have e1:r⁻¹.num.natAbs=r.den:=by rw[Rat.num_inv,Int.natAbs_mul,Int.natAbs_natCast,Int.natAbs_sign_of_ne_zero hn,Nat.one_mul]
  have e2:r⁻¹.den=r.num.natAbs:=by rw[Rat.den_inv,if_neg hn]
  have e3:decide (r⁻¹<0)=decide (r<0):=by
   rw[decide_eq_decide,iu,iu,Rat.num_inv]
   have hd:=r.den_nz
   have hd':(0:Int)<(r.den:Int):=by omega
   rcases Int.lt_trichotomy r.num 0 with h|h|h
   ·rw[Int.sign_eq_neg_one_of_neg h];omega
   ·exact absurd h hn
   ·rw[Int.sign_eq_one_of_pos h];omega
  rw[e1,e2,e3]
 rw[Rat.div_def,hi]
 conv=>rhs;rw[←jR q]
 rw[HA]
theorem Ht (hn:n<2^42) (hm':m<2^42) (K:Nat):aA P uy K [.rat q n,.rat r m] [] (aG (.tuple [.rat (q/r) (n+m),.int .i64 (if r=0 then 3 else 0)]) []):=by
 refine iC fun⟨hq,hr,_⟩=>?_
 have hq:Sz q n:=hq
 have hr:Sz r m:=hr
 obtain⟨a1,a2,a3⟩:=Sz.iJ hq (by omega)
 obtain⟨b1,b2,b3⟩:=Sz.iJ hr (by omega)
 have d1:=q.den_nz
 have d2:=r.den_nz
 have m1:nl (q.num.natAbs*r.den)<2^40:=ju (n:=n+m) (by rw[Nat.pow_add];exact Nat.mul_lt_mul'' hq.1 hr.2) (by omega)
 have m2:nl (q.den*r.num.natAbs)<2^40:=ju (n:=n+m) (by rw[Nat.pow_add];exact Nat.mul_lt_mul'' hq.2 hr.1) (by omega)
 have hz:=hq.div hr
 have sg:∀{x:Rat},ey x=0↔x=0:=by intro x;unfold ey;grind
 refine bJ hT kO hm aek rfl (of_decide_eq_true (by kernel_rfl)) rfl 60 Zw (fun _=>?_) K []
 refine⟨⟨show 0<1 by omega,show m<2^44 by omega⟩,fun hb=>⟨show 0<1 by omega,show 0<1 by omega,?_,?_,trivial⟩,fun hb=>⟨show 0<1 by omega,?_⟩⟩
 ·have h0:r=0:=sg.1 (eq_of_beq hb)
  have e:q/r=0:=by rw[h0,Rat.div_def,Rat.inv_zero,Rat.mul_zero]
  obtain⟨k,hk⟩:∃k,n+m=k+1:=⟨n+m-1,by have:=hq.pos;omega⟩
  rw[e,hk];exact lf
 ·have h0:r=0:=sg.1 (eq_of_beq hb)
  exact bt (by rw[if_pos h0])
 have h0:r≠0:=fun h=>by
  rw[h]at hb
  simp[ey]at hb
 have hv:=Gn q r h0
 have he:bw (.int .i64 0) (.int .i64 (if r=0 then 3 else 0)):=bt (by rw[if_neg h0])
 have hlong:(aa.ag
         [(0:Nat)<1,(0:Nat)<1,(0:Nat)<1,(0:Nat)<1,nl q.num.natAbs<2^40,nl r.den<2^40,(0:Nat)<1,(0:Nat)<1,nl q.den<2^40,nl r.num.natAbs<2^40,nl (q.num.natAbs*r.den)<2^40,nl (q.den*r.num.natAbs)<2^40,(0:Nat)<1]
         (aa.ag [(0:Nat)<1]
          (aa.leaf ak.ret
           [AV.rat (sQ (decide (q<(0:Rat))!=decide (r<(0:Rat))) (q.num.natAbs*r.den) (q.den*r.num.natAbs))
             (cz (sQ (decide (q<(0:Rat))!=decide (r<(0:Rat))) (q.num.natAbs*r.den) (q.den*r.num.natAbs))),.int .i64 0]))).all fun _ us=>dI us (.tuple [.rat (q/r) (n+m),.int .i64 (if r=0 then 3 else 0)]):=by
  simp only[aa.all,ax]
  exact⟨⟨by omega,by omega,by omega,by omega,a1,b2,by omega,by omega,a2,b1,m1,m2,by omega⟩,by omega,ew hv hz,he,trivial⟩
 refine⟨fun h1=>⟨show 0<1 by omega,fun h2=>?_,fun h2=>hlong⟩,fun h1=>hlong⟩
 obtain⟨q1,q2⟩:=oJ h1
 obtain⟨r1,r2⟩:=oJ h2
 obtain⟨wx,bx⟩:=nN q1 r2
 obtain⟨wd,bd⟩:=nN q2 r1
 have hr0:r.num.natAbs≠0:=fun h=>h0 (me.1 h)
 have hd0:q.den*r.num.natAbs≠0:=Nat.mul_ne_zero d1 hr0
 rw[if_pos h1,if_pos h2,if_pos h1,if_pos h2,wx,wd]
 simp only[aa.all,ax,Int.toNat_natCast]
 exact⟨⟨by omega,by omega,by omega,by omega,by omega⟩,by omega,ew hv hz,he,trivial⟩
end ops
def KU:Spec:=bE fun l=>match l with
 |[.int .i64 n]=>some (aG (.rat (n:Rat) (max 1 (bu n.natAbs))) [-2^63≤n,n<2^63])
 |_=>none
theorem ah8:∀K args pre r,KU K args pre=some r→aA P qC K args pre r:=by
 refine bX fun K args r hk hs _=>?_
 split at hs
 ·simp only[Option.some.injEq]at hs
  subst hs
  exact fun need=>HG need.1 need.2 K trivial
 ·simp at hs
end Go.Am.B
