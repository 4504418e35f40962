/- rational.Add, Sub, Mul, Quo, Cmp, Min, Max, Int. -/
import Derived.Test.YtppeigelbecpbaaGreatB20
set_option linter.unusedVariables false
namespace Go.Am.B
open Go Go.Am.N AV
theorem V8:aO P tJ uw (aq uw):=aP Q8 (by kernel_rfl) (by kernel_rfl) (by kernel_rfl)
theorem abe:aO P tN yz (aq yz):=aP agB (by kernel_rfl) (by kernel_rfl) (by kernel_rfl)
theorem Rt:aO P yZ x7 (aq x7):=aP WE (by kernel_rfl) (by kernel_rfl) (by kernel_rfl)
theorem acq:aO P zG vJ (aq vJ):=aP Zc (by kernel_rfl) (by kernel_rfl) (by kernel_rfl)
theorem Z7:aO P ow vY (aq vY):=aP afE (by kernel_rfl) (by kernel_rfl) (by kernel_rfl)
def IV:Spec:=bA fun l=>match l with
 |[.rat q n,.rat r m,.bool s]=>some (aF (.rat (q+sQ s r.num.natAbs r.den) (n+m+1)) [n<2^42,m<2^42])
 |_=>none
def M8:Spec:=bA fun l=>match l with
 |[.rat q n,.rat r m]=>some (aF (.int .i64 (eU q r)) [n<2^42,m<2^42])
 |_=>none
abbrev EH:FuncId×Spec:=(tC,Ks)
def GA:aS:=(xG,IV)::(iZ,M8)::EH::(vu,I8)::(qE,Cj)::(r8,E5)::[]
theorem VW {q r:Rat} {n m:Nat}:bu T GA [] 60 uw (aq uw) ⟨aM 0 [.rat q n,.rat r m],[],0⟩=
  let c1:Prop:=0<1;some (aa.af [c1,c1,c1,n<2^42,m<2^42,c1] (aa.af [c1] (aa.leaf aj.ret [rat (q+sQ (decide (r<0)) r.num.natAbs r.den) (n+m+1)]))):=by kernel_rfl
theorem YA {q r:Rat} {n m:Nat}:bu T GA [] 60 yz (aq yz) ⟨aM 0 [.rat q n,.rat r m],[],0⟩=
  let c1:Prop:=0<1;some (aa.af [c1,c1,c1,n<2^42,m<2^42,c1] (aa.af [c1] (aa.leaf aj.ret [rat (q+sQ (!decide (r<0)) r.num.natAbs r.den) (n+m+1)]))):=by kernel_rfl
theorem RO {q r:Rat} {n m:Nat}:bu T GA [8] 60 x7 (aq x7) ⟨aM 0 [.rat q n,.rat r m],[],0⟩=
  let c1:Prop:=0<1;some (aa.af [c1,c1,m<2^42,n<2^42] (aa.fork (decide (eU r q<(0:Int))) (aa.af [c1,c1] (aa.af [c1,m<2^44,c1] (aa.af [c1] (aa.leaf aj.ret [rat r m])))) (aa.af [c1,n<2^44,c1] (aa.af [c1] (aa.leaf aj.ret [rat q n]))))):=by kernel_rfl
theorem WS {q r:Rat} {n m:Nat}:bu T GA [8] 60 vJ (aq vJ) ⟨aM 0 [.rat q n,.rat r m],[],0⟩=
  let c1:Prop:=0<1;some (aa.af [c1,c1,m<2^42,n<2^42] (aa.fork (decide (eU r q>(0:Int))) (aa.af [c1,c1] (aa.af [c1,m<2^44,c1] (aa.af [c1] (aa.leaf aj.ret [rat r m])))) (aa.af [c1,n<2^44,c1] (aa.af [c1] (aa.leaf aj.ret [rat q n]))))):=by kernel_rfl
theorem afR {n:Int}:bu T GA [] 60 vY (aq vY) ⟨aM 0 [.int .i64 n],[],0⟩=
  let c1:Rat:=sQ (decide (n<(0:Int))) n.natAbs 1;some (aa.af [-(2:Int)^63≤n,n<(2:Int)^63,nl n.natAbs<2^40,nl 1<2^40,(0:Nat)<1] (aa.af [(0:Nat)<1] (aa.leaf aj.ret [rat c1 (ck c1)]))):=by kernel_rfl
theorem Xb {q r:Rat} {n m:Nat}:bu T GQ [20,23,34,47,49,56,63,76] 60 tB (aq tB) ⟨aM 0 [.rat q n,.rat r m],[],0⟩=
  let c14 : aa (List AV) := aa.leaf aj.ret [int IntKind.i64 (0 : Int)]; let c13 : Nat := q.num.natAbs; let c12 : Nat := r.num.natAbs; let c11 : aa (List AV) := aa.leaf aj.ret [int IntKind.i64 (1 : Int)]; let c10 : Bool := decide (q < 0); let c9 : aa (List AV) := aa.leaf aj.ret [int IntKind.i64 (-1 : Int)]; let c8 : Nat := if r.den = 1 then 0 else r.den; let c7 : Nat := if q.den = 1 then 0 else q.den; let c6 : Nat := 2 ^ 40; let c5 : Prop := 0 < 1; let c15 : Int := ct (c13 * r.den) (c12 * q.den); let c4 : Int := IntKind.u64.wrap ((↑(if cY q = true then c13 else 0) : Int) * (↑(if cY r = true then r.den else 0) : Int)); let c3 : Int := IntKind.u64.wrap ((↑(if cY r = true then c12 else 0) : Int) * (↑(if cY q = true then q.den else 0) : Int)); let c2 : aa (List AV) := aa.af [c5, c5, nl c13 < c6, nl r.den < c6, c5, c5, nl c12 < c6, nl q.den < c6, nl (c13 * r.den) < c6, nl (c12 * q.den) < c6] (aa.af [c5] (aa.fork c10 (aa.leaf aj.ret [int IntKind.i64 (IntKind.i64.wrap ((0 : Int) - c15))]) (aa.leaf aj.ret [int IntKind.i64 c15]))); let c1 : aa (List AV) := aa.fork (decide (c4 < c3)) (aa.af [c5] (aa.fork c10 c11 c9)) (aa.fork (decide (c4 > c3)) (aa.af [c5] (aa.fork c10 c9 c11)) (aa.af [c5] (aa.fork c10 c14 c14))); some (aa.af [c5, n < 2 ^ 44, c5, m < 2 ^ 44] (aa.fork (dL q != dL r) (aa.fork (decide (dL q < dL r)) c9 c11) (aa.af [c5] (aa.af [c5, c5, nl c7 < c6, nl c8 < c6] (aa.fork (decide (c7 = c8)) (aa.af [c5, c5, nl c13 < c6, nl c12 < c6] (aa.af [c5] (aa.fork c10 (aa.leaf aj.ret [int IntKind.i64 (IntKind.i64.wrap ((0 : Int) - ct c13 c12))]) (aa.leaf aj.ret [int IntKind.i64 (ct c13 c12)])))) (aa.af [c5] (aa.fork (cY q) (aa.af [cY q = true] (aa.fork (bif true then cY r else false) c1 c2)) (aa.af [cY q = false] (aa.fork false c1 c2))))))))) := by kernel_rfl
theorem Q2:∀K args pre r,IV K args pre=some r→az P xG K args pre r:=by
 refine bS fun K args r hk hs _=>?_
 split at hs
 ·simp only[Option.some.injEq]at hs
  subst hs
  exact fun need=>agb need.1 need.2 K [] trivial
 ·simp at hs
theorem Br {q r:Rat} (h:dL q≠dL r):eU q r=if dL q<dL r then-1 else 1:=by
 unfold dL eU at*
 grind
theorem Zd {a b:Nat}:-ct a b=ct b a:=by unfold ct;split<;>split<;>omega
theorem II {a b k:Nat} (hk:0<k):ct (a*k) (b*k)=ct a b:=by
 unfold ct
 simp only[Nat.mul_lt_mul_right hk]
theorem BE {a b:Nat}:IntKind.i64.wrap (0-ct a b)=-ct a b:=by
 have:ct a b=-1∨ct a b=0∨ct a b=1:=by unfold ct;split;exact .inl rfl;split;exact .inr (.inr rfl);exact .inr (.inl rfl)
 rcases this with h|h|h<;>rw[h]<;>rfl
theorem lF {q r:Rat} (h:dL q=dL r):eU q r=if q<0 then-ct (q.num.natAbs*r.den) (r.num.natAbs*q.den)else ct (q.num.natAbs*r.den) (r.num.natAbs*q.den):=by
 have h1:q<0↔r<0:=by unfold dL at h;grind
 have e1:∀{a b:Nat},(-(a:Int))*(b:Int)=-((a*b:Nat):Int):=fun {a b}=>by simp[Int.neg_mul]
 have e2:∀{a b:Nat},(a:Int)*(b:Int)=((a*b:Nat):Int):=fun {a b}=>by simp
 unfold eU
 by_cases hq:q<0
 ·have hr:=h1.1 hq
  have q1:q.num=-(q.num.natAbs:Int):=by have:=gx.1 hq;omega
  have r1:r.num=-(r.num.natAbs:Int):=by have:=gx.1 hr;omega
  have l1:q<r↔r.num.natAbs*q.den<q.num.natAbs*r.den:=by
   rw[Rat.lt_iff]
   conv=>lhs;rw[q1,r1,e1,e1]
   omega
  have l2:r<q↔q.num.natAbs*r.den<r.num.natAbs*q.den:=by
   rw[Rat.lt_iff]
   conv=>lhs;rw[q1,r1,e1,e1]
   omega
  rw[if_pos hq,Zd]
  unfold ct
  simp only[l1,l2]
 ·have hr:¬r<0:=fun h=>hq (h1.2 h)
  have q1:q.num=(q.num.natAbs:Int):=by have:¬q.num<0:=fun h=>hq (gx.2 h);omega
  have r1:r.num=(r.num.natAbs:Int):=by have:¬r.num<0:=fun h=>hr (gx.2 h);omega
  have l1:q<r↔q.num.natAbs*r.den<r.num.natAbs*q.den:=by
   rw[Rat.lt_iff]
   conv=>lhs;rw[q1,r1,e2,e2]
   omega
  have l2:r<q↔r.num.natAbs*q.den<q.num.natAbs*r.den:=by
   rw[Rat.lt_iff]
   conv=>lhs;rw[q1,r1,e2,e2]
   omega
  rw[if_neg hq]
  unfold ct
  simp only[l1,l2]
theorem Df {q r:Rat} {n m:Nat} (hn:n<2^42) (hm':m<2^42) (K:Nat) (pre:aA):az P iZ K [.rat q n,.rat r m] pre (aF (.int .i64 (eU q r)) []):=by
 refine gU fun⟨hq,hr,_⟩=>?_
 have hq:Sz q n:=hq
 have hr:Sz r m:=hr
 obtain⟨a1,a2,a3⟩:=Sz.gN hq (by omega)
 obtain⟨b1,b2,b3⟩:=Sz.gN hr (by omega)
 have d1:=q.den_nz
 have d2:=r.den_nz
 have m1:nl (q.num.natAbs*r.den)<2^40:=iN (n:=n+m) (by rw[Nat.pow_add];exact Nat.mul_lt_mul'' hq.1 hr.2) (by omega)
 have m2:nl (r.num.natAbs*q.den)<2^40:=iN (n:=m+n) (by rw[Nat.pow_add];exact Nat.mul_lt_mul'' hr.1 hq.2) (by omega)
 refine bC hT jr hm XS rfl (of_decide_eq_true (by kernel_rfl)) rfl 60 Xb (fun _=>?_) K pre
 simp only[aa.all,ax,bne_iff_ne,ne_eq,bne_eq_false_iff_eq]
 refine⟨⟨by omega,by omega,by omega,by omega⟩,fun hs=>⟨fun hl=>br ?_,fun hl=>br ?_⟩,fun hs=>⟨by omega,⟨by omega,by omega,a3,b3⟩,fun hd=>⟨⟨by omega,by omega,a1,b1⟩,by omega,fun hc=>br ?_,fun hc=>br ?_⟩,fun hd=>⟨by omega,fun hp=>⟨hp,fun hp2=>?_,fun hp2=>⟨⟨by omega,by omega,a1,b2,by omega,by omega,b1,a2,m1,m2⟩,by omega,fun hc=>br ?_,fun hc=>br ?_⟩⟩,fun hp=>⟨hp,fun h=>by simp at h,fun _=>⟨⟨by omega,by omega,a1,b2,by omega,by omega,b1,a2,m1,m2⟩,by omega,fun hc=>br ?_,fun hc=>br ?_⟩⟩⟩⟩⟩
 ·rw[Br hs,if_pos (of_decide_eq_true hl)]
 ·rw[Br hs,if_neg (of_decide_eq_false hl)]
 ·have hd:=of_decide_eq_true hd
  have e:q.den=r.den:=by split at hd<;>split at hd<;>omega
  rw[lF hs,if_pos (of_decide_eq_true hc),e,II (by omega),BE]
 ·have hd:=of_decide_eq_true hd
  have e:q.den=r.den:=by split at hd<;>split at hd<;>omega
  rw[lF hs,if_neg (of_decide_eq_false hc),e,II (by omega)]
 ·have hp2:=gV hp2
  obtain⟨q1,q2⟩:=nT hp
  obtain⟨r1,r2⟩:=nT hp2
  rw[if_pos hp,if_pos hp2,if_pos hp2,if_pos hp,(mo q1 r2).1,(mo r1 q2).1]
  have hcs:=lF hs
  generalize q.num.natAbs*r.den=X at*
  generalize r.num.natAbs*q.den=Y at*
  unfold ct at hcs
  refine⟨fun h1=>⟨by omega,fun hc=>br ?_,fun hc=>br ?_⟩,fun h1=>⟨fun h2=>⟨by omega,fun hc=>br ?_,fun hc=>br ?_⟩,fun h2=>⟨by omega,fun hc=>br ?_,fun hc=>br ?_⟩⟩⟩
  all_goals rw[hcs]
  ·rw[if_pos (of_decide_eq_true hc),if_pos (by have:=of_decide_eq_true h1;omega)];rfl
  ·rw[if_neg (of_decide_eq_false hc),if_pos (by have:=of_decide_eq_true h1;omega)]
  ·rw[if_pos (of_decide_eq_true hc),if_neg (by have:=of_decide_eq_false h1;omega),if_pos (by have:=of_decide_eq_true h2;omega)]
  ·rw[if_neg (of_decide_eq_false hc),if_neg (by have:=of_decide_eq_false h1;omega),if_pos (by have:=of_decide_eq_true h2;omega)]
  ·rw[if_pos (of_decide_eq_true hc),if_neg (by have:=of_decide_eq_false h1;omega),if_neg (by have:=of_decide_eq_false h2;omega)];rfl
  ·rw[if_neg (of_decide_eq_false hc),if_neg (by have:=of_decide_eq_false h1;omega),if_neg (by have:=of_decide_eq_false h2;omega)]
 ·rw[lF hs,if_pos (of_decide_eq_true hc),BE]
 ·rw[lF hs,if_neg (of_decide_eq_false hc)]
 ·rw[lF hs,if_pos (of_decide_eq_true hc),BE]
 ·rw[lF hs,if_neg (of_decide_eq_false hc)]
theorem aeq:∀K args pre r,M8 K args pre=some r→az P iZ K args pre r:=by
 refine bS fun K args r hk hs _=>?_
 split at hs
 ·simp only[Option.some.injEq]at hs
  subst hs
  exact fun need=>Df need.1 need.2 K [] trivial
 ·simp at hs
theorem agf:∀K args pre r,EH.2 K args pre=some r→az P EH.1 K args pre r:=aeu
theorem vj:aW P GA:=aD Q2 (aD aeq (aD agf (aD aaW (aD HH (aD HY aX)))))
section ops
variable {q r:Rat} {n m:Nat}
theorem Iw (hn:n<2^42) (hm':m<2^42) (K:Nat):az P tJ K [.rat q n,.rat r m] [] (aF (.rat (q+r) (n+m+1)) []):=by
 refine bC hT vj hm V8 rfl (of_decide_eq_true (by kernel_rfl)) rfl 60 VW (fun _=>?_) K []
 simp only[aa.all,ax,jo]
 exact⟨⟨by omega,by omega,by omega,hn,hm',by omega⟩,by omega,.refl _⟩
theorem aaE (r:Rat):sQ (!decide (r<0)) r.num.natAbs r.den=-r:=by
 have h:=jo r
 conv=>rhs;rw[←h]
 unfold sQ
 rw[Rat.neg_mkRat]
 congr 1
 unfold eC
 by_cases h:r<0<;>simp[h]
theorem JJ (hn:n<2^42) (hm':m<2^42) (K:Nat):az P tN K [.rat q n,.rat r m] [] (aF (.rat (q-r) (n+m+1)) []):=by
 refine bC hT vj hm abe rfl (of_decide_eq_true (by kernel_rfl)) rfl 60 YA (fun _=>?_) K []
 simp only[aa.all,ax,aaE]
 exact⟨⟨by omega,by omega,by omega,hn,hm',by omega⟩,by omega,de (by rw[Rat.sub_eq_add_neg])⟩
def kz (q r:Rat):Rat:=if r<q then r else q
def k8 (q r:Rat):Rat:=if q<r then r else q
theorem lW {q r:Rat}:eU q r<0↔q<r:=by unfold eU;grind
theorem EI {q r:Rat}:eU q r>0↔r<q:=by unfold eU;grind
theorem P3 (hn:n<2^42) (hm':m<2^42) (K:Nat):az P yZ K [.rat q n,.rat r m] [] (aF (.rat (kz q r) (max n m)) []):=by
 refine bC hT vj hm Rt rfl (of_decide_eq_true (by kernel_rfl)) rfl 60 RO (fun _=>?_) K []
 simp only[aa.all,ax,decide_eq_true_eq,decide_eq_false_iff_not,lW]
 refine⟨⟨by omega,by omega,hm',hn⟩,fun h=>⟨⟨by omega,by omega⟩,⟨by omega,by omega,by omega⟩,by omega,?_⟩,fun h=>⟨⟨by omega,by omega,by omega⟩,by omega,?_⟩⟩
 ·unfold kz;rw[if_pos h];exact cN (Nat.le_max_right _ _)
 ·unfold kz;rw[if_neg h];exact cN (Nat.le_max_left _ _)
theorem Zk (hn:n<2^42) (hm':m<2^42) (K:Nat):az P zG K [.rat q n,.rat r m] [] (aF (.rat (k8 q r) (max n m)) []):=by
 refine bC hT vj hm acq rfl (of_decide_eq_true (by kernel_rfl)) rfl 60 WS (fun _=>?_) K []
 simp only[aa.all,ax,decide_eq_true_eq,decide_eq_false_iff_not,EI]
 refine⟨⟨by omega,by omega,hm',hn⟩,fun h=>⟨⟨by omega,by omega⟩,⟨by omega,by omega,by omega⟩,by omega,?_⟩,fun h=>⟨⟨by omega,by omega,by omega⟩,by omega,?_⟩⟩
 ·unfold k8;rw[if_pos h];exact cN (Nat.le_max_right _ _)
 ·unfold k8;rw[if_neg h];exact cN (Nat.le_max_left _ _)
theorem TG {n:Int}:sQ (decide (n<0)) n.natAbs 1=(n:Rat):=by
 unfold sQ
 have:eC (decide (n<0)) n.natAbs=n:=by unfold eC;by_cases h:n<0<;>simp[h]<;>omega
 rw[this,Rat.mkRat_one]
theorem CA {n:Int}:Sz (n:Rat) (max 1 (bp n.natAbs)):=by
 refine⟨?_,?_⟩
 ·rw[Rat.num_intCast]
  exact Nat.lt_of_lt_of_le (gq.1 (Nat.le_refl _)) (Nat.pow_le_pow_right (by omega) (Nat.le_max_right _ _))
 ·rw[Rat.den_intCast]
  exact Nat.lt_of_lt_of_le (show 1<2^1 by omega) (Nat.pow_le_pow_right (by omega) (Nat.le_max_left _ _))
theorem EU {n:Int} (h1:-2^63≤n) (h2:n<2^63) (K:Nat):az P ow K [.int .i64 n] [] (aF (.rat (n:Rat) (max 1 (bp n.natAbs))) []):=by
 refine bC hT vj hm Z7 rfl (of_decide_eq_true (by kernel_rfl)) rfl 60 afR (fun _=>?_) K []
 simp only[aa.all,ax,TG]
 exact⟨⟨h1,h2,iN (n:=64) (by omega) (by omega),by decide,by omega⟩,by omega,fl rfl CA⟩
theorem Ni (hn:n<2^42) (hm':m<2^42) (K:Nat):az P uu K [.rat q n,.rat r m] [] (aF (.rat (q*r) (n+m)) []):=by
 refine gU fun⟨hq,hr,_⟩=>?_
 have hq:Sz q n:=hq
 have hr:Sz r m:=hr
 obtain⟨a1,a2,a3⟩:=Sz.gN hq (by omega)
 obtain⟨b1,b2,b3⟩:=Sz.gN hr (by omega)
 have d1:=q.den_nz
 have d2:=r.den_nz
 have m1:nl (q.num.natAbs*r.num.natAbs)<2^40:=iN (n:=n+m) (by rw[Nat.pow_add];exact Nat.mul_lt_mul'' hq.1 hr.1) (by omega)
 have m2:nl (q.den*r.den)<2^40:=iN (n:=n+m) (by rw[Nat.pow_add];exact Nat.mul_lt_mul'' hq.2 hr.2) (by omega)
 have hz:=hq.mul hr
 have hv:sQ (decide (q<0)!=decide (r<0)) (q.num.natAbs*r.num.natAbs) (q.den*r.den)=q*r:=by rw[←BS,jo,jo]
 have hzero:q=0∨r=0→bz (.agg [.bool false,.mag 0,.mag 0]) (.rat (q*r) (n+m)):=by
  intro h
  have e:q*r=0:=by rcases h with h|h<;>subst h<;>simp
  obtain⟨k,hk⟩:∃k,n+m=k+1:=⟨n+m-1,by have:=hq.pos;omega⟩
  rw[e,hk];exact iE
 refine bC hT jr hm ZH rfl (of_decide_eq_true (by kernel_rfl)) rfl 60 afh (fun _=>?_) K []
 have hlong:(aa.af
         [(0:Nat)<1,(0:Nat)<1,(0:Nat)<1,(0:Nat)<1,nl q.num.natAbs<2^40,nl r.num.natAbs<2^40,(0:Nat)<1,(0:Nat)<1,nl q.den<2^40,nl r.den<2^40,nl (q.num.natAbs*r.num.natAbs)<2^40,nl (q.den*r.den)<2^40,(0:Nat)<1]
         (aa.af [(0:Nat)<1]
          (aa.leaf aj.ret
           [AV.rat (sQ (decide (q<(0:Rat))!=decide (r<(0:Rat))) (q.num.natAbs*r.num.natAbs) (q.den*r.den))
             (ck (sQ (decide (q<(0:Rat))!=decide (r<(0:Rat))) (q.num.natAbs*r.num.natAbs) (q.den*r.den)))]))).all fun _ us=>dK us (.rat (q*r) (n+m)):=by
  simp only[aa.all,ax]
  exact⟨⟨by omega,by omega,by omega,by omega,a1,b1,by omega,by omega,a2,b2,m1,m2,by omega⟩,by omega,fl hv hz⟩
 refine⟨fun hb=>⟨⟨show 0<1 by omega,hb⟩,fun _=>⟨show 0<1 by omega,show 0<1 by omega,hzero (.inl ?_)⟩,fun h=>by simp at h⟩,fun hb=>⟨⟨show 0<1 by omega,hb,show 0<1 by omega⟩,fun hc=>⟨show 0<1 by omega,show 0<1 by omega,hzero (.inr ?_)⟩,fun hc=>⟨show 0<1 by omega,fun h1=>⟨show 0<1 by omega,fun h2=>?_,fun h2=>hlong⟩,fun h1=>hlong⟩⟩⟩
 ·have:=eq_of_beq hb
  exact kZ.1 (gM.1 (by omega))
 ·have:=eq_of_beq (ga hc)
  exact kZ.1 (gM.1 (by omega))
 ·obtain⟨q1,q2⟩:=nT h1
  obtain⟨r1,r2⟩:=nT h2
  obtain⟨wx,bx⟩:=mo q1 r1
  obtain⟨wd,bd⟩:=mo q2 r2
  have hd0:q.den*r.den≠0:=Nat.mul_ne_zero d1 d2
  rw[if_pos h1,if_pos h2,if_pos h1,if_pos h2,wx,wd]
  simp only[aa.all,ax,Int.toNat_natCast]
  exact⟨⟨by omega,by omega,by omega,by omega,by omega⟩,by omega,fl hv hz⟩
theorem Dt (q r:Rat) (hr:r≠0):sQ (decide (q<0)!=decide (r<0)) (q.num.natAbs*r.den) (q.den*r.num.natAbs)=q/r:=by
 have hn:r.num≠0:=fun h=>hr (Rat.num_eq_zero.1 h)
 have hi:r⁻¹=sQ (decide (r<0)) r.den r.num.natAbs:=by
  rw[←jo r⁻¹]
  have e1:r⁻¹.num.natAbs=r.den:=by rw[Rat.num_inv,Int.natAbs_mul,Int.natAbs_natCast,Int.natAbs_sign_of_ne_zero hn,Nat.one_mul]
  have e2:r⁻¹.den=r.num.natAbs:=by rw[Rat.den_inv,if_neg hn]
  have e3:decide (r⁻¹<0)=decide (r<0):=by
   rw[decide_eq_decide,gx,gx,Rat.num_inv]
   have hd:=r.den_nz
   have hd':(0:Int)<(r.den:Int):=by omega
   rcases Int.lt_trichotomy r.num 0 with h|h|h
   ·rw[Int.sign_eq_neg_one_of_neg h];omega
   ·exact absurd h hn
   ·rw[Int.sign_eq_one_of_pos h];omega
  rw[e1,e2,e3]
 rw[Rat.div_def,hi]
 conv=>rhs;rw[←jo q]
 rw[BS]
theorem Dr (hn:n<2^42) (hm':m<2^42) (K:Nat):az P rE K [.rat q n,.rat r m] [] (aF (.tuple [.rat (q/r) (n+m),.int .i64 (if r=0 then 3 else 0)]) []):=by
 refine gU fun⟨hq,hr,_⟩=>?_
 have hq:Sz q n:=hq
 have hr:Sz r m:=hr
 obtain⟨a1,a2,a3⟩:=Sz.gN hq (by omega)
 obtain⟨b1,b2,b3⟩:=Sz.gN hr (by omega)
 have d1:=q.den_nz
 have d2:=r.den_nz
 have m1:nl (q.num.natAbs*r.den)<2^40:=iN (n:=n+m) (by rw[Nat.pow_add];exact Nat.mul_lt_mul'' hq.1 hr.2) (by omega)
 have m2:nl (q.den*r.num.natAbs)<2^40:=iN (n:=n+m) (by rw[Nat.pow_add];exact Nat.mul_lt_mul'' hq.2 hr.1) (by omega)
 have hz:=hq.div hr
 have sg:∀{x:Rat},dL x=0↔x=0:=by intro x;unfold dL;grind
 refine bC hT jr hm Tz rfl (of_decide_eq_true (by kernel_rfl)) rfl 60 Px (fun _=>?_) K []
 refine⟨⟨show 0<1 by omega,show m<2^44 by omega⟩,fun hb=>⟨show 0<1 by omega,show 0<1 by omega,?_,?_,trivial⟩,fun hb=>⟨show 0<1 by omega,?_⟩⟩
 ·have h0:r=0:=sg.1 (eq_of_beq hb)
  have e:q/r=0:=by rw[h0,Rat.div_def,Rat.inv_zero,Rat.mul_zero]
  obtain⟨k,hk⟩:∃k,n+m=k+1:=⟨n+m-1,by have:=hq.pos;omega⟩
  rw[e,hk];exact iE
 ·have h0:r=0:=sg.1 (eq_of_beq hb)
  exact br (by rw[if_pos h0])
 have h0:r≠0:=fun h=>by
  rw[h]at hb
  simp[dL]at hb
 have hv:=Dt q r h0
 have he:bz (.int .i64 0) (.int .i64 (if r=0 then 3 else 0)):=br (by rw[if_neg h0])
 have hlong:(aa.af
         [(0:Nat)<1,(0:Nat)<1,(0:Nat)<1,(0:Nat)<1,nl q.num.natAbs<2^40,nl r.den<2^40,(0:Nat)<1,(0:Nat)<1,nl q.den<2^40,nl r.num.natAbs<2^40,nl (q.num.natAbs*r.den)<2^40,nl (q.den*r.num.natAbs)<2^40,(0:Nat)<1]
         (aa.af [(0:Nat)<1]
          (aa.leaf aj.ret
           [AV.rat (sQ (decide (q<(0:Rat))!=decide (r<(0:Rat))) (q.num.natAbs*r.den) (q.den*r.num.natAbs))
             (ck (sQ (decide (q<(0:Rat))!=decide (r<(0:Rat))) (q.num.natAbs*r.den) (q.den*r.num.natAbs))),.int .i64 0]))).all fun _ us=>dK us (.tuple [.rat (q/r) (n+m),.int .i64 (if r=0 then 3 else 0)]):=by
  simp only[aa.all,ax]
  exact⟨⟨by omega,by omega,by omega,by omega,a1,b2,by omega,by omega,a2,b1,m1,m2,by omega⟩,by omega,fl hv hz,he,trivial⟩
 refine⟨fun h1=>⟨show 0<1 by omega,fun h2=>?_,fun h2=>hlong⟩,fun h1=>hlong⟩
 obtain⟨q1,q2⟩:=nT h1
 obtain⟨r1,r2⟩:=nT h2
 obtain⟨wx,bx⟩:=mo q1 r2
 obtain⟨wd,bd⟩:=mo q2 r1
 have hr0:r.num.natAbs≠0:=fun h=>h0 (kZ.1 h)
 have hd0:q.den*r.num.natAbs≠0:=Nat.mul_ne_zero d1 hr0
 rw[if_pos h1,if_pos h2,if_pos h1,if_pos h2,wx,wd]
 simp only[aa.all,ax,Int.toNat_natCast]
 exact⟨⟨by omega,by omega,by omega,by omega,by omega⟩,by omega,fl hv hz,he,trivial⟩
end ops
def J3:Spec:=bA fun l=>match l with
 |[.int .i64 n]=>some (aF (.rat (n:Rat) (max 1 (bp n.natAbs))) [-2^63≤n,n<2^63])
 |_=>none
theorem U9:∀K args pre r,J3 K args pre=some r→az P ow K args pre r:=by
 refine bS fun K args r hk hs _=>?_
 split at hs
 ·simp only[Option.some.injEq]at hs
  subst hs
  exact fun need=>EU need.1 need.2 K trivial
 ·simp at hs
end Go.Am.B
