/- rational.Add, Sub, Mul, Quo, Cmp, Min, Max, Int. -/
import Derived.Test.YtppeigelbecpbaaGreatB20
set_option linter.unusedVariables false
namespace Go.Am.B
open Go Go.Am.N AV
theorem ab2:aO P wu zk (au zk):=aQ UG (by kernel_rfl) (by kernel_rfl) (by kernel_rfl)
theorem akv:aO P xL Au (au Au):=aQ agl (by kernel_rfl) (by kernel_rfl) (by kernel_rfl)
theorem ahu:aO P DD AG (au AG):=aQ Xu (by kernel_rfl) (by kernel_rfl) (by kernel_rfl)
theorem acw:aO P CY xH (au xH):=aQ ae7 (by kernel_rfl) (by kernel_rfl) (by kernel_rfl)
theorem ahh:aO P qx ya (au ya):=aQ ai8 (by kernel_rfl) (by kernel_rfl) (by kernel_rfl)
def IZ:Spec:=bC fun l=>match l with
 |[.rat q n,.rat r m,.bool s]=>some (aK (.rat (q+sQ s r.num.natAbs r.den) (n+m+1)) [n<2^42,m<2^42])
 |_=>none
def OR:Spec:=bC fun l=>match l with
 |[.rat q n,.rat r m]=>some (aK (.int .i64 (fe q r)) [n<2^42,m<2^42])
 |_=>none
abbrev HQ:FuncId×Spec:=(AZ,PF)
def GA:aR:=(vq,IZ)::(jB,OR)::HQ::(yp,Ot)::(uK,ED)::(tD,HZ)::[]
theorem T5 {q r:Rat} {n m:Nat}:bF T GA [] 60 zk (au zk) ⟨aN 0 [.rat q n,.rat r m],[],0⟩=
  let c1:Prop:=0<1;some (aa.ag [c1,c1,c1,n<2^42,m<2^42,c1] (aa.ag [c1] (aa.leaf aj.ret [rat (q+sQ (decide (r<0)) r.num.natAbs r.den) (n+m+1)]))):=by kernel_rfl
theorem afg {q r:Rat} {n m:Nat}:bF T GA [] 60 Au (au Au) ⟨aN 0 [.rat q n,.rat r m],[],0⟩=
  let c1:Prop:=0<1;some (aa.ag [c1,c1,c1,n<2^42,m<2^42,c1] (aa.ag [c1] (aa.leaf aj.ret [rat (q+sQ (!decide (r<0)) r.num.natAbs r.den) (n+m+1)]))):=by kernel_rfl
theorem RL {q r:Rat} {n m:Nat}:bF T GA [8] 60 AG (au AG) ⟨aN 0 [.rat q n,.rat r m],[],0⟩=
  let c1:Prop:=0<1;some (aa.ag [c1,c1,m<2^42,n<2^42] (aa.fork (decide (fe r q<(0:Int))) (aa.ag [c1,c1] (aa.ag [c1,m<2^44,c1] (aa.ag [c1] (aa.leaf aj.ret [rat r m])))) (aa.ag [c1,n<2^44,c1] (aa.ag [c1] (aa.leaf aj.ret [rat q n]))))):=by kernel_rfl
theorem ael {q r:Rat} {n m:Nat}:bF T GA [8] 60 xH (au xH) ⟨aN 0 [.rat q n,.rat r m],[],0⟩=
  let c1:Prop:=0<1;some (aa.ag [c1,c1,m<2^42,n<2^42] (aa.fork (decide (fe r q>(0:Int))) (aa.ag [c1,c1] (aa.ag [c1,m<2^44,c1] (aa.ag [c1] (aa.leaf aj.ret [rat r m])))) (aa.ag [c1,n<2^44,c1] (aa.ag [c1] (aa.leaf aj.ret [rat q n]))))):=by kernel_rfl
theorem Wd {n:Int}:bF T GA [] 60 ya (au ya) ⟨aN 0 [.int .i64 n],[],0⟩=
  let c1:Rat:=sQ (decide (n<(0:Int))) n.natAbs 1;some (aa.ag [-(2:Int)^63≤n,n<(2:Int)^63,nl n.natAbs<2^40,nl 1<2^40,(0:Nat)<1] (aa.ag [(0:Nat)<1] (aa.leaf aj.ret [rat c1 (ct c1)]))):=by kernel_rfl
theorem aio {q r:Rat} {n m:Nat}:bF T GQ [20,23,34,47,49,56,63,76] 60 vQ (au vQ) ⟨aN 0 [.rat q n,.rat r m],[],0⟩=
  let c14 : aa (List AV) := aa.leaf aj.ret [int IntKind.i64 (0 : Int)]; let c13 : Nat := q.num.natAbs; let c12 : Nat := r.num.natAbs; let c11 : aa (List AV) := aa.leaf aj.ret [int IntKind.i64 (1 : Int)]; let c10 : Bool := decide (q < 0); let c9 : aa (List AV) := aa.leaf aj.ret [int IntKind.i64 (-1 : Int)]; let c8 : Nat := if r.den = 1 then 0 else r.den; let c7 : Nat := if q.den = 1 then 0 else q.den; let c6 : Nat := 2 ^ 40; let c5 : Prop := 0 < 1; let c15 : Int := cA (c13 * r.den) (c12 * q.den); let c4 : Int := IntKind.u64.wrap ((↑(if dN q = true then c13 else 0) : Int) * (↑(if dN r = true then r.den else 0) : Int)); let c3 : Int := IntKind.u64.wrap ((↑(if dN r = true then c12 else 0) : Int) * (↑(if dN q = true then q.den else 0) : Int)); let c2 : aa (List AV) := aa.ag [c5, c5, nl c13 < c6, nl r.den < c6, c5, c5, nl c12 < c6, nl q.den < c6, nl (c13 * r.den) < c6, nl (c12 * q.den) < c6] (aa.ag [c5] (aa.fork c10 (aa.leaf aj.ret [int IntKind.i64 (IntKind.i64.wrap ((0 : Int) - c15))]) (aa.leaf aj.ret [int IntKind.i64 c15]))); let c1 : aa (List AV) := aa.fork (decide (c4 < c3)) (aa.ag [c5] (aa.fork c10 c11 c9)) (aa.fork (decide (c4 > c3)) (aa.ag [c5] (aa.fork c10 c9 c11)) (aa.ag [c5] (aa.fork c10 c14 c14))); some (aa.ag [c5, n < 2 ^ 44, c5, m < 2 ^ 44] (aa.fork (eG q != eG r) (aa.fork (decide (eG q < eG r)) c9 c11) (aa.ag [c5] (aa.ag [c5, c5, nl c7 < c6, nl c8 < c6] (aa.fork (decide (c7 = c8)) (aa.ag [c5, c5, nl c13 < c6, nl c12 < c6] (aa.ag [c5] (aa.fork c10 (aa.leaf aj.ret [int IntKind.i64 (IntKind.i64.wrap ((0 : Int) - cA c13 c12))]) (aa.leaf aj.ret [int IntKind.i64 (cA c13 c12)])))) (aa.ag [c5] (aa.fork (dN q) (aa.ag [dN q = true] (aa.fork (bif true then dN r else false) c1 c2)) (aa.ag [dN q = false] (aa.fork false c1 c2))))))))) := by kernel_rfl
theorem SS:∀K args pre r,IZ K args pre=some r→aB P vq K args pre r:=by
 refine bV fun K args r hk hs _=>?_
 split at hs
 ·simp only[Option.some.injEq]at hs
  subst hs
  exact fun need=>aah need.1 need.2 K [] trivial
 ·simp at hs
theorem BZ {q r:Rat} (h:eG q≠eG r):fe q r=if eG q<eG r then-1 else 1:=by
 unfold eG fe at*
 grind
theorem YI {a b:Nat}:-cA a b=cA b a:=by unfold cA;split<;>split<;>omega
theorem Rk {a b k:Nat} (hk:0<k):cA (a*k) (b*k)=cA a b:=by
 unfold cA
 simp only[Nat.mul_lt_mul_right hk]
theorem DG {a b:Nat}:IntKind.i64.wrap (0-cA a b)=-cA a b:=by
 have:cA a b=-1∨cA a b=0∨cA a b=1:=by unfold cA;split;exact .inl rfl;split;exact .inr (.inr rfl);exact .inr (.inl rfl)
 rcases this with h|h|h<;>rw[h]<;>rfl
theorem nS {q r:Rat} (h:eG q=eG r):fe q r=if q<0 then-cA (q.num.natAbs*r.den) (r.num.natAbs*q.den)else cA (q.num.natAbs*r.den) (r.num.natAbs*q.den):=by
 have h1:q<0↔r<0:=by unfold eG at h;grind
 have e1:∀{a b:Nat},(-(a:Int))*(b:Int)=-((a*b:Nat):Int):=fun {a b}=>by simp[Int.neg_mul]
 have e2:∀{a b:Nat},(a:Int)*(b:Int)=((a*b:Nat):Int):=fun {a b}=>by simp
 unfold fe
 by_cases hq:q<0
 ·have hr:=h1.1 hq
  have q1:q.num=-(q.num.natAbs:Int):=by have:=iB.1 hq;omega
  have r1:r.num=-(r.num.natAbs:Int):=by have:=iB.1 hr;omega
  have l1:q<r↔r.num.natAbs*q.den<q.num.natAbs*r.den:=by
   rw[Rat.lt_iff]
   conv=>lhs;rw[q1,r1,e1,e1]
   omega
  have l2:r<q↔q.num.natAbs*r.den<r.num.natAbs*q.den:=by
   rw[Rat.lt_iff]
   conv=>lhs;rw[q1,r1,e1,e1]
   omega
  rw[if_pos hq,YI]
  unfold cA
  simp only[l1,l2]
 ·have hr:¬r<0:=fun h=>hq (h1.2 h)
  have q1:q.num=(q.num.natAbs:Int):=by have:¬q.num<0:=fun h=>hq (iB.2 h);omega
  have r1:r.num=(r.num.natAbs:Int):=by have:¬r.num<0:=fun h=>hr (iB.2 h);omega
  have l1:q<r↔q.num.natAbs*r.den<r.num.natAbs*q.den:=by
   rw[Rat.lt_iff]
   conv=>lhs;rw[q1,r1,e2,e2]
   omega
  have l2:r<q↔r.num.natAbs*q.den<q.num.natAbs*r.den:=by
   rw[Rat.lt_iff]
   conv=>lhs;rw[q1,r1,e2,e2]
   omega
  rw[if_neg hq]
  unfold cA
  simp only[l1,l2]
theorem Gd {q r:Rat} {n m:Nat} (hn:n<2^42) (hm':m<2^42) (K:Nat) (pre:aC):aB P jB K [.rat q n,.rat r m] pre (aK (.int .i64 (fe q r)) []):=by
 refine jj fun⟨hq,hr,_⟩=>?_
 have hq:Sz q n:=hq
 have hr:Sz r m:=hr
 obtain⟨a1,a2,a3⟩:=Sz.iK hq (by omega)
 obtain⟨b1,b2,b3⟩:=Sz.iK hr (by omega)
 have d1:=q.den_nz
 have d2:=r.den_nz
 have m1:nl (q.num.natAbs*r.den)<2^40:=iZ (n:=n+m) (by rw[Nat.pow_add];exact Nat.mul_lt_mul'' hq.1 hr.2) (by omega)
 have m2:nl (r.num.natAbs*q.den)<2^40:=iZ (n:=m+n) (by rw[Nat.pow_add];exact Nat.mul_lt_mul'' hr.1 hq.2) (by omega)
 refine bJ hT lC hm aeP rfl (of_decide_eq_true (by kernel_rfl)) rfl 60 aio (fun _=>?_) K pre
 simp only[aa.all,ax,bne_iff_ne,ne_eq,bne_eq_false_iff_eq]
 refine⟨⟨by omega,by omega,by omega,by omega⟩,fun hs=>⟨fun hl=>bw ?_,fun hl=>bw ?_⟩,fun hs=>⟨by omega,⟨by omega,by omega,a3,b3⟩,fun hd=>⟨⟨by omega,by omega,a1,b1⟩,by omega,fun hc=>bw ?_,fun hc=>bw ?_⟩,fun hd=>⟨by omega,fun hp=>⟨hp,fun hp2=>?_,fun hp2=>⟨⟨by omega,by omega,a1,b2,by omega,by omega,b1,a2,m1,m2⟩,by omega,fun hc=>bw ?_,fun hc=>bw ?_⟩⟩,fun hp=>⟨hp,fun h=>by simp at h,fun _=>⟨⟨by omega,by omega,a1,b2,by omega,by omega,b1,a2,m1,m2⟩,by omega,fun hc=>bw ?_,fun hc=>bw ?_⟩⟩⟩⟩⟩
 ·rw[BZ hs,if_pos (of_decide_eq_true hl)]
 ·rw[BZ hs,if_neg (of_decide_eq_false hl)]
 ·have hd:=of_decide_eq_true hd
  have e:q.den=r.den:=by split at hd<;>split at hd<;>omega
  rw[nS hs,if_pos (of_decide_eq_true hc),e,Rk (by omega),DG]
 ·have hd:=of_decide_eq_true hd
  have e:q.den=r.den:=by split at hd<;>split at hd<;>omega
  rw[nS hs,if_neg (of_decide_eq_false hc),e,Rk (by omega)]
 ·have hp2:=iL hp2
  obtain⟨q1,q2⟩:=pQ hp
  obtain⟨r1,r2⟩:=pQ hp2
  rw[if_pos hp,if_pos hp2,if_pos hp2,if_pos hp,(nF q1 r2).1,(nF r1 q2).1]
  have hcs:=nS hs
  generalize q.num.natAbs*r.den=X at*
  generalize r.num.natAbs*q.den=Y at*
  unfold cA at hcs
  refine⟨fun h1=>⟨by omega,fun hc=>bw ?_,fun hc=>bw ?_⟩,fun h1=>⟨fun h2=>⟨by omega,fun hc=>bw ?_,fun hc=>bw ?_⟩,fun h2=>⟨by omega,fun hc=>bw ?_,fun hc=>bw ?_⟩⟩⟩
  all_goals rw[hcs]
  ·rw[if_pos (of_decide_eq_true hc),if_pos (by have:=of_decide_eq_true h1;omega)];rfl
  ·rw[if_neg (of_decide_eq_false hc),if_pos (by have:=of_decide_eq_true h1;omega)]
  ·rw[if_pos (of_decide_eq_true hc),if_neg (by have:=of_decide_eq_false h1;omega),if_pos (by have:=of_decide_eq_true h2;omega)]
  ·rw[if_neg (of_decide_eq_false hc),if_neg (by have:=of_decide_eq_false h1;omega),if_pos (by have:=of_decide_eq_true h2;omega)]
  ·rw[if_pos (of_decide_eq_true hc),if_neg (by have:=of_decide_eq_false h1;omega),if_neg (by have:=of_decide_eq_false h2;omega)];rfl
  ·rw[if_neg (of_decide_eq_false hc),if_neg (by have:=of_decide_eq_false h1;omega),if_neg (by have:=of_decide_eq_false h2;omega)]
 ·rw[nS hs,if_pos (of_decide_eq_true hc),DG]
 ·rw[nS hs,if_neg (of_decide_eq_false hc)]
 ·rw[nS hs,if_pos (of_decide_eq_true hc),DG]
 ·rw[nS hs,if_neg (of_decide_eq_false hc)]
theorem adg:∀K args pre r,OR K args pre=some r→aB P jB K args pre r:=by
 refine bV fun K args r hk hs _=>?_
 split at hs
 ·simp only[Option.some.injEq]at hs
  subst hs
  exact fun need=>Gd need.1 need.2 K [] trivial
 ·simp at hs
theorem Y3:∀K args pre r,HQ.2 K args pre=some r→aB P HQ.1 K args pre r:=adD
theorem uW:aY P GA:=aG SS (aG adg (aG Y3 (aG afQ (aG Qu (aG LH bk)))))
section ops
variable {q r:Rat} {n m:Nat}
theorem ON (hn:n<2^42) (hm':m<2^42) (K:Nat):aB P wu K [.rat q n,.rat r m] [] (aK (.rat (q+r) (n+m+1)) []):=by
 refine bJ hT uW hm ab2 rfl (of_decide_eq_true (by kernel_rfl)) rfl 60 T5 (fun _=>?_) K []
 simp only[aa.all,ax,ko]
 exact⟨⟨by omega,by omega,by omega,hn,hm',by omega⟩,by omega,.refl _⟩
theorem aeS (r:Rat):sQ (!decide (r<0)) r.num.natAbs r.den=-r:=by
 have h:=ko r
 conv=>rhs;rw[←h]
 unfold sQ
 rw[Rat.neg_mkRat]
 congr 1
 unfold fA
 by_cases h:r<0<;>simp[h]
theorem J5 (hn:n<2^42) (hm':m<2^42) (K:Nat):aB P xL K [.rat q n,.rat r m] [] (aK (.rat (q-r) (n+m+1)) []):=by
 refine bJ hT uW hm akv rfl (of_decide_eq_true (by kernel_rfl)) rfl 60 afg (fun _=>?_) K []
 simp only[aa.all,ax,aeS]
 exact⟨⟨by omega,by omega,by omega,hn,hm',by omega⟩,by omega,dc (by rw[Rat.sub_eq_add_neg])⟩
def qG (q r:Rat):Rat:=if r<q then r else q
def rJ (q r:Rat):Rat:=if q<r then r else q
theorem oZ {q r:Rat}:fe q r<0↔q<r:=by unfold fe;grind
theorem zF {q r:Rat}:fe q r>0↔r<q:=by unfold fe;grind
theorem aaE (hn:n<2^42) (hm':m<2^42) (K:Nat):aB P DD K [.rat q n,.rat r m] [] (aK (.rat (qG q r) (max n m)) []):=by
 refine bJ hT uW hm ahu rfl (of_decide_eq_true (by kernel_rfl)) rfl 60 RL (fun _=>?_) K []
 simp only[aa.all,ax,decide_eq_true_eq,decide_eq_false_iff_not,oZ]
 refine⟨⟨by omega,by omega,hm',hn⟩,fun h=>⟨⟨by omega,by omega⟩,⟨by omega,by omega,by omega⟩,by omega,?_⟩,fun h=>⟨⟨by omega,by omega,by omega⟩,by omega,?_⟩⟩
 ·unfold qG;rw[if_pos h];exact fC (Nat.le_max_right _ _)
 ·unfold qG;rw[if_neg h];exact fC (Nat.le_max_left _ _)
theorem akW (hn:n<2^42) (hm':m<2^42) (K:Nat):aB P CY K [.rat q n,.rat r m] [] (aK (.rat (rJ q r) (max n m)) []):=by
 refine bJ hT uW hm acw rfl (of_decide_eq_true (by kernel_rfl)) rfl 60 ael (fun _=>?_) K []
 simp only[aa.all,ax,decide_eq_true_eq,decide_eq_false_iff_not,zF]
 refine⟨⟨by omega,by omega,hm',hn⟩,fun h=>⟨⟨by omega,by omega⟩,⟨by omega,by omega,by omega⟩,by omega,?_⟩,fun h=>⟨⟨by omega,by omega,by omega⟩,by omega,?_⟩⟩
 ·unfold rJ;rw[if_pos h];exact fC (Nat.le_max_right _ _)
 ·unfold rJ;rw[if_neg h];exact fC (Nat.le_max_left _ _)
theorem UU {n:Int}:sQ (decide (n<0)) n.natAbs 1=(n:Rat):=by
 unfold sQ
 have:fA (decide (n<0)) n.natAbs=n:=by unfold fA;by_cases h:n<0<;>simp[h]<;>omega
 rw[this,Rat.mkRat_one]
theorem Iu {n:Int}:Sz (n:Rat) (max 1 (br n.natAbs)):=by
 refine⟨?_,?_⟩
 ·rw[Rat.num_intCast]
  exact Nat.lt_of_lt_of_le (iI.1 (Nat.le_refl _)) (Nat.pow_le_pow_right (by omega) (Nat.le_max_right _ _))
 ·rw[Rat.den_intCast]
  exact Nat.lt_of_lt_of_le (show 1<2^1 by omega) (Nat.pow_le_pow_right (by omega) (Nat.le_max_left _ _))
theorem EW {n:Int} (h1:-2^63≤n) (h2:n<2^63) (K:Nat):aB P qx K [.int .i64 n] [] (aK (.rat (n:Rat) (max 1 (br n.natAbs))) []):=by
 refine bJ hT uW hm ahh rfl (of_decide_eq_true (by kernel_rfl)) rfl 60 Wd (fun _=>?_) K []
 simp only[aa.all,ax,UU]
 exact⟨⟨h1,h2,iZ (n:=64) (by omega) (by omega),by decide,by omega⟩,by omega,fS rfl Iu⟩
theorem Lw (hn:n<2^42) (hm':m<2^42) (K:Nat):aB P z8 K [.rat q n,.rat r m] [] (aK (.rat (q*r) (n+m)) []):=by
 refine jj fun⟨hq,hr,_⟩=>?_
 have hq:Sz q n:=hq
 have hr:Sz r m:=hr
 obtain⟨a1,a2,a3⟩:=Sz.iK hq (by omega)
 obtain⟨b1,b2,b3⟩:=Sz.iK hr (by omega)
 have d1:=q.den_nz
 have d2:=r.den_nz
 have m1:nl (q.num.natAbs*r.num.natAbs)<2^40:=iZ (n:=n+m) (by rw[Nat.pow_add];exact Nat.mul_lt_mul'' hq.1 hr.1) (by omega)
 have m2:nl (q.den*r.den)<2^40:=iZ (n:=n+m) (by rw[Nat.pow_add];exact Nat.mul_lt_mul'' hq.2 hr.2) (by omega)
 have hz:=hq.mul hr
 have hv:sQ (decide (q<0)!=decide (r<0)) (q.num.natAbs*r.num.natAbs) (q.den*r.den)=q*r:=by rw[←FH,ko,ko]
 have hzero:q=0∨r=0→bB (.agg [.bool false,.mag 0,.mag 0]) (.rat (q*r) (n+m)):=by
  intro h
  have e:q*r=0:=by rcases h with h|h<;>subst h<;>simp
  obtain⟨k,hk⟩:∃k,n+m=k+1:=⟨n+m-1,by have:=hq.pos;omega⟩
  rw[e,hk];exact lR
 refine bJ hT lC hm afF rfl (of_decide_eq_true (by kernel_rfl)) rfl 60 abN (fun _=>?_) K []
 have hlong:(aa.ag
         [(0:Nat)<1,(0:Nat)<1,(0:Nat)<1,(0:Nat)<1,nl q.num.natAbs<2^40,nl r.num.natAbs<2^40,(0:Nat)<1,(0:Nat)<1,nl q.den<2^40,nl r.den<2^40,nl (q.num.natAbs*r.num.natAbs)<2^40,nl (q.den*r.den)<2^40,(0:Nat)<1]
         (aa.ag [(0:Nat)<1]
          (aa.leaf aj.ret
           [AV.rat (sQ (decide (q<(0:Rat))!=decide (r<(0:Rat))) (q.num.natAbs*r.num.natAbs) (q.den*r.den))
             (ct (sQ (decide (q<(0:Rat))!=decide (r<(0:Rat))) (q.num.natAbs*r.num.natAbs) (q.den*r.den)))]))).all fun _ us=>dX us (.rat (q*r) (n+m)):=by
  simp only[aa.all,ax]
  exact⟨⟨by omega,by omega,by omega,by omega,a1,b1,by omega,by omega,a2,b2,m1,m2,by omega⟩,by omega,fS hv hz⟩
 refine⟨fun hb=>⟨⟨show 0<1 by omega,hb⟩,fun _=>⟨show 0<1 by omega,show 0<1 by omega,hzero (.inl ?_)⟩,fun h=>by simp at h⟩,fun hb=>⟨⟨show 0<1 by omega,hb,show 0<1 by omega⟩,fun hc=>⟨show 0<1 by omega,show 0<1 by omega,hzero (.inr ?_)⟩,fun hc=>⟨show 0<1 by omega,fun h1=>⟨show 0<1 by omega,fun h2=>?_,fun h2=>hlong⟩,fun h1=>hlong⟩⟩⟩
 ·have:=eq_of_beq hb
  exact pV.1 (iJ.1 (by omega))
 ·have:=eq_of_beq (gL hc)
  exact pV.1 (iJ.1 (by omega))
 ·obtain⟨q1,q2⟩:=pQ h1
  obtain⟨r1,r2⟩:=pQ h2
  obtain⟨wx,bx⟩:=nF q1 r1
  obtain⟨wd,bd⟩:=nF q2 r2
  have hd0:q.den*r.den≠0:=Nat.mul_ne_zero d1 d2
  rw[if_pos h1,if_pos h2,if_pos h1,if_pos h2,wx,wd]
  simp only[aa.all,ax,Int.toNat_natCast]
  exact⟨⟨by omega,by omega,by omega,by omega,by omega⟩,by omega,fS hv hz⟩
theorem Lb (q r:Rat) (hr:r≠0):sQ (decide (q<0)!=decide (r<0)) (q.num.natAbs*r.den) (q.den*r.num.natAbs)=q/r:=by
 have hn:r.num≠0:=fun h=>hr (Rat.num_eq_zero.1 h)
 have hi:r⁻¹=sQ (decide (r<0)) r.den r.num.natAbs:=by
  rw[←ko r⁻¹]
  have e1:r⁻¹.num.natAbs=r.den:=by rw[Rat.num_inv,Int.natAbs_mul,Int.natAbs_natCast,Int.natAbs_sign_of_ne_zero hn,Nat.one_mul]
  have e2:r⁻¹.den=r.num.natAbs:=by rw[Rat.den_inv,if_neg hn]
  have e3:decide (r⁻¹<0)=decide (r<0):=by
   rw[decide_eq_decide,iB,iB,Rat.num_inv]
   have hd:=r.den_nz
   have hd':(0:Int)<(r.den:Int):=by omega
   rcases Int.lt_trichotomy r.num 0 with h|h|h
   ·rw[Int.sign_eq_neg_one_of_neg h];omega
   ·exact absurd h hn
   ·rw[Int.sign_eq_one_of_pos h];omega
  rw[e1,e2,e3]
 rw[Rat.div_def,hi]
 conv=>rhs;rw[←ko q]
 rw[FH]
theorem Gv (hn:n<2^42) (hm':m<2^42) (K:Nat):aB P sn K [.rat q n,.rat r m] [] (aK (.tuple [.rat (q/r) (n+m),.int .i64 (if r=0 then 3 else 0)]) []):=by
 refine jj fun⟨hq,hr,_⟩=>?_
 have hq:Sz q n:=hq
 have hr:Sz r m:=hr
 obtain⟨a1,a2,a3⟩:=Sz.iK hq (by omega)
 obtain⟨b1,b2,b3⟩:=Sz.iK hr (by omega)
 have d1:=q.den_nz
 have d2:=r.den_nz
 have m1:nl (q.num.natAbs*r.den)<2^40:=iZ (n:=n+m) (by rw[Nat.pow_add];exact Nat.mul_lt_mul'' hq.1 hr.2) (by omega)
 have m2:nl (q.den*r.num.natAbs)<2^40:=iZ (n:=n+m) (by rw[Nat.pow_add];exact Nat.mul_lt_mul'' hq.2 hr.1) (by omega)
 have hz:=hq.div hr
 have sg:∀{x:Rat},eG x=0↔x=0:=by intro x;unfold eG;grind
 refine bJ hT lC hm ZT rfl (of_decide_eq_true (by kernel_rfl)) rfl 60 aei (fun _=>?_) K []
 refine⟨⟨show 0<1 by omega,show m<2^44 by omega⟩,fun hb=>⟨show 0<1 by omega,show 0<1 by omega,?_,?_,trivial⟩,fun hb=>⟨show 0<1 by omega,?_⟩⟩
 ·have h0:r=0:=sg.1 (eq_of_beq hb)
  have e:q/r=0:=by rw[h0,Rat.div_def,Rat.inv_zero,Rat.mul_zero]
  obtain⟨k,hk⟩:∃k,n+m=k+1:=⟨n+m-1,by have:=hq.pos;omega⟩
  rw[e,hk];exact lR
 ·have h0:r=0:=sg.1 (eq_of_beq hb)
  exact bw (by rw[if_pos h0])
 have h0:r≠0:=fun h=>by
  rw[h]at hb
  simp[eG]at hb
 have hv:=Lb q r h0
 have he:bB (.int .i64 0) (.int .i64 (if r=0 then 3 else 0)):=bw (by rw[if_neg h0])
 have hlong:(aa.ag
         [(0:Nat)<1,(0:Nat)<1,(0:Nat)<1,(0:Nat)<1,nl q.num.natAbs<2^40,nl r.den<2^40,(0:Nat)<1,(0:Nat)<1,nl q.den<2^40,nl r.num.natAbs<2^40,nl (q.num.natAbs*r.den)<2^40,nl (q.den*r.num.natAbs)<2^40,(0:Nat)<1]
         (aa.ag [(0:Nat)<1]
          (aa.leaf aj.ret
           [AV.rat (sQ (decide (q<(0:Rat))!=decide (r<(0:Rat))) (q.num.natAbs*r.den) (q.den*r.num.natAbs))
             (ct (sQ (decide (q<(0:Rat))!=decide (r<(0:Rat))) (q.num.natAbs*r.den) (q.den*r.num.natAbs))),.int .i64 0]))).all fun _ us=>dX us (.tuple [.rat (q/r) (n+m),.int .i64 (if r=0 then 3 else 0)]):=by
  simp only[aa.all,ax]
  exact⟨⟨by omega,by omega,by omega,by omega,a1,b2,by omega,by omega,a2,b1,m1,m2,by omega⟩,by omega,fS hv hz,he,trivial⟩
 refine⟨fun h1=>⟨show 0<1 by omega,fun h2=>?_,fun h2=>hlong⟩,fun h1=>hlong⟩
 obtain⟨q1,q2⟩:=pQ h1
 obtain⟨r1,r2⟩:=pQ h2
 obtain⟨wx,bx⟩:=nF q1 r2
 obtain⟨wd,bd⟩:=nF q2 r1
 have hr0:r.num.natAbs≠0:=fun h=>h0 (pV.1 h)
 have hd0:q.den*r.num.natAbs≠0:=Nat.mul_ne_zero d1 hr0
 rw[if_pos h1,if_pos h2,if_pos h1,if_pos h2,wx,wd]
 simp only[aa.all,ax,Int.toNat_natCast]
 exact⟨⟨by omega,by omega,by omega,by omega,by omega⟩,by omega,fS hv hz,he,trivial⟩
end ops
def L4:Spec:=bC fun l=>match l with
 |[.int .i64 n]=>some (aK (.rat (n:Rat) (max 1 (br n.natAbs))) [-2^63≤n,n<2^63])
 |_=>none
theorem XC:∀K args pre r,L4 K args pre=some r→aB P qx K args pre r:=by
 refine bV fun K args r hk hs _=>?_
 split at hs
 ·simp only[Option.some.injEq]at hs
  subst hs
  exact fun need=>EW need.1 need.2 K trivial
 ·simp at hs
end Go.Am.B
