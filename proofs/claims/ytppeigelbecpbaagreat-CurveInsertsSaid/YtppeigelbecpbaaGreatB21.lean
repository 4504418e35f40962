/- rational.Add, Sub, Mul, Quo, Cmp, Min, Max, Int. -/
import Derived.Test.YtppeigelbecpbaaGreatB20
set_option linter.unusedVariables false
namespace Go.Am.B
open Go Go.Am.N AV
theorem V4:aP P xF vj (au vj):=aQ V7 (by kernel_rfl) (by kernel_rfl) (by kernel_rfl)
theorem Zg:aP P Aa vg (au vg):=aQ aeF (by kernel_rfl) (by kernel_rfl) (by kernel_rfl)
theorem YX:aP P BV vK (au vK):=aQ ahT (by kernel_rfl) (by kernel_rfl) (by kernel_rfl)
theorem akh:aP P BP vm (au vm):=aQ agp (by kernel_rfl) (by kernel_rfl) (by kernel_rfl)
theorem Yy:aP P rq zM (au zM):=aQ Q1 (by kernel_rfl) (by kernel_rfl) (by kernel_rfl)
def NZ:Spec:=bE fun l=>match l with
 |[.rat q n,.rat r m,.bool s]=>some (aH (.rat (q+sQ s r.num.natAbs r.den) (n+m+1)) [n<2^42,m<2^42])
 |_=>none
def Pr:Spec:=bE fun l=>match l with
 |[.rat q n,.rat r m]=>some (aH (.int .i64 (dc q r)) [n<2^42,m<2^42])
 |_=>none
abbrev Et:FuncId×Spec:=(zB,OA)
def GA:aS:=(vR,NZ)::(js,Pr)::Et::(y6,LM)::(uG,Ir)::(su,FO)::[]
theorem QW {q r:Rat} {n m:Nat}:bC T GA [] 60 vj (au vj) ⟨aN 0 [.rat q n,.rat r m],[],0⟩=
  let c1:Prop:=0<1;some (aa.ag [c1,c1,c1,n<2^42,m<2^42,c1] (aa.ag [c1] (aa.leaf ak.ret [rat (q+sQ (decide (r<0)) r.num.natAbs r.den) (n+m+1)]))):=by kernel_rfl
theorem Zb {q r:Rat} {n m:Nat}:bC T GA [] 60 vg (au vg) ⟨aN 0 [.rat q n,.rat r m],[],0⟩=
  let c1:Prop:=0<1;some (aa.ag [c1,c1,c1,n<2^42,m<2^42,c1] (aa.ag [c1] (aa.leaf ak.ret [rat (q+sQ (!decide (r<0)) r.num.natAbs r.den) (n+m+1)]))):=by kernel_rfl
theorem abL {q r:Rat} {n m:Nat}:bC T GA [8] 60 vK (au vK) ⟨aN 0 [.rat q n,.rat r m],[],0⟩=
  let c1:Prop:=0<1;some (aa.ag [c1,c1,m<2^42,n<2^42] (aa.fork (decide (dc r q<(0:Int))) (aa.ag [c1,c1] (aa.ag [c1,m<2^44,c1] (aa.ag [c1] (aa.leaf ak.ret [rat r m])))) (aa.ag [c1,n<2^44,c1] (aa.ag [c1] (aa.leaf ak.ret [rat q n]))))):=by kernel_rfl
theorem aju {q r:Rat} {n m:Nat}:bC T GA [8] 60 vm (au vm) ⟨aN 0 [.rat q n,.rat r m],[],0⟩=
  let c1:Prop:=0<1;some (aa.ag [c1,c1,m<2^42,n<2^42] (aa.fork (decide (dc r q>(0:Int))) (aa.ag [c1,c1] (aa.ag [c1,m<2^44,c1] (aa.ag [c1] (aa.leaf ak.ret [rat r m])))) (aa.ag [c1,n<2^44,c1] (aa.ag [c1] (aa.leaf ak.ret [rat q n]))))):=by kernel_rfl
theorem Zn {n:Int}:bC T GA [] 60 zM (au zM) ⟨aN 0 [.int .i64 n],[],0⟩=
  let c1:Rat:=sQ (decide (n<(0:Int))) n.natAbs 1;some (aa.ag [-(2:Int)^63≤n,n<(2:Int)^63,nl n.natAbs<2^40,nl 1<2^40,(0:Nat)<1] (aa.ag [(0:Nat)<1] (aa.leaf ak.ret [rat c1 (cz c1)]))):=by kernel_rfl
theorem Yj {q r:Rat} {n m:Nat}:bC T GQ [20,23,34,47,49,56,63,76] 60 xe (au xe) ⟨aN 0 [.rat q n,.rat r m],[],0⟩=
  let c14 : aa (List AV) := aa.leaf ak.ret [int IntKind.i64 (0 : Int)]; let c13 : Nat := q.num.natAbs; let c12 : Nat := r.num.natAbs; let c11 : aa (List AV) := aa.leaf ak.ret [int IntKind.i64 (1 : Int)]; let c10 : Bool := decide (q < 0); let c9 : aa (List AV) := aa.leaf ak.ret [int IntKind.i64 (-1 : Int)]; let c8 : Nat := if r.den = 1 then 0 else r.den; let c7 : Nat := if q.den = 1 then 0 else q.den; let c6 : Nat := 2 ^ 40; let c5 : Prop := 0 < 1; let c15 : Int := cH (c13 * r.den) (c12 * q.den); let c4 : Int := IntKind.u64.wrap ((↑(if dB q = true then c13 else 0) : Int) * (↑(if dB r = true then r.den else 0) : Int)); let c3 : Int := IntKind.u64.wrap ((↑(if dB r = true then c12 else 0) : Int) * (↑(if dB q = true then q.den else 0) : Int)); let c2 : aa (List AV) := aa.ag [c5, c5, nl c13 < c6, nl r.den < c6, c5, c5, nl c12 < c6, nl q.den < c6, nl (c13 * r.den) < c6, nl (c12 * q.den) < c6] (aa.ag [c5] (aa.fork c10 (aa.leaf ak.ret [int IntKind.i64 (IntKind.i64.wrap ((0 : Int) - c15))]) (aa.leaf ak.ret [int IntKind.i64 c15]))); let c1 : aa (List AV) := aa.fork (decide (c4 < c3)) (aa.ag [c5] (aa.fork c10 c11 c9)) (aa.fork (decide (c4 > c3)) (aa.ag [c5] (aa.fork c10 c9 c11)) (aa.ag [c5] (aa.fork c10 c14 c14))); some (aa.ag [c5, n < 2 ^ 44, c5, m < 2 ^ 44] (aa.fork (ew q != ew r) (aa.fork (decide (ew q < ew r)) c9 c11) (aa.ag [c5] (aa.ag [c5, c5, nl c7 < c6, nl c8 < c6] (aa.fork (decide (c7 = c8)) (aa.ag [c5, c5, nl c13 < c6, nl c12 < c6] (aa.ag [c5] (aa.fork c10 (aa.leaf ak.ret [int IntKind.i64 (IntKind.i64.wrap ((0 : Int) - cH c13 c12))]) (aa.leaf ak.ret [int IntKind.i64 (cH c13 c12)])))) (aa.ag [c5] (aa.fork (dB q) (aa.ag [dB q = true] (aa.fork (bif true then dB r else false) c1 c2)) (aa.ag [dB q = false] (aa.fork false c1 c2))))))))) := by kernel_rfl
theorem ae4:∀K args pre r,NZ K args pre=some r→aA P vR K args pre r:=by
 refine bV fun K args r hk hs _=>?_
 split at hs
 ·simp only[Option.some.injEq]at hs
  subst hs
  exact fun need=>agP need.1 need.2 K [] trivial
 ·simp at hs
theorem Cn {q r:Rat} (h:ew q≠ew r):dc q r=if ew q<ew r then-1 else 1:=by
 unfold ew dc at*
 grind
theorem T2 {a b:Nat}:-cH a b=cH b a:=by unfold cH;split<;>split<;>omega
theorem Oe {a b k:Nat} (hk:0<k):cH (a*k) (b*k)=cH a b:=by
 unfold cH
 simp only[Nat.mul_lt_mul_right hk]
theorem Dd {a b:Nat}:IntKind.i64.wrap (0-cH a b)=-cH a b:=by
 have:cH a b=-1∨cH a b=0∨cH a b=1:=by unfold cH;split;exact .inl rfl;split;exact .inr (.inr rfl);exact .inr (.inl rfl)
 rcases this with h|h|h<;>rw[h]<;>rfl
theorem m9 {q r:Rat} (h:ew q=ew r):dc q r=if q<0 then-cH (q.num.natAbs*r.den) (r.num.natAbs*q.den)else cH (q.num.natAbs*r.den) (r.num.natAbs*q.den):=by
 have h1:q<0↔r<0:=by unfold ew at h;grind
 have e1:∀{a b:Nat},(-(a:Int))*(b:Int)=-((a*b:Nat):Int):=fun {a b}=>by simp[Int.neg_mul]
 have e2:∀{a b:Nat},(a:Int)*(b:Int)=((a*b:Nat):Int):=fun {a b}=>by simp
 unfold dc
 by_cases hq:q<0
 ·have hr:=h1.1 hq
  have q1:q.num=-(q.num.natAbs:Int):=by have:=ic.1 hq;omega
  have r1:r.num=-(r.num.natAbs:Int):=by have:=ic.1 hr;omega
  have l1:q<r↔r.num.natAbs*q.den<q.num.natAbs*r.den:=by
   rw[Rat.lt_iff]
   conv=>lhs;rw[q1,r1,e1,e1]
   omega
  have l2:r<q↔q.num.natAbs*r.den<r.num.natAbs*q.den:=by
   rw[Rat.lt_iff]
   conv=>lhs;rw[q1,r1,e1,e1]
   omega
  rw[if_pos hq,T2]
  unfold cH
  simp only[l1,l2]
 ·have hr:¬r<0:=fun h=>hq (h1.2 h)
  have q1:q.num=(q.num.natAbs:Int):=by have:¬q.num<0:=fun h=>hq (ic.2 h);omega
  have r1:r.num=(r.num.natAbs:Int):=by have:¬r.num<0:=fun h=>hr (ic.2 h);omega
  have l1:q<r↔q.num.natAbs*r.den<r.num.natAbs*q.den:=by
   rw[Rat.lt_iff]
   conv=>lhs;rw[q1,r1,e2,e2]
   omega
  have l2:r<q↔r.num.natAbs*q.den<q.num.natAbs*r.den:=by
   rw[Rat.lt_iff]
   conv=>lhs;rw[q1,r1,e2,e2]
   omega
  rw[if_neg hq]
  unfold cH
  simp only[l1,l2]
theorem Iu {q r:Rat} {n m:Nat} (hn:n<2^42) (hm':m<2^42) (K:Nat) (pre:aC):aA P js K [.rat q n,.rat r m] pre (aH (.int .i64 (dc q r)) []):=by
 refine iK fun⟨hq,hr,_⟩=>?_
 have hq:Sz q n:=hq
 have hr:Sz r m:=hr
 obtain⟨a1,a2,a3⟩:=Sz.iQ hq (by omega)
 obtain⟨b1,b2,b3⟩:=Sz.iQ hr (by omega)
 have d1:=q.den_nz
 have d2:=r.den_nz
 have m1:nl (q.num.natAbs*r.den)<2^40:=jv (n:=n+m) (by rw[Nat.pow_add];exact Nat.mul_lt_mul'' hq.1 hr.2) (by omega)
 have m2:nl (r.num.natAbs*q.den)<2^40:=jv (n:=m+n) (by rw[Nat.pow_add];exact Nat.mul_lt_mul'' hr.1 hq.2) (by omega)
 refine bJ hT j9 hm Yx rfl (of_decide_eq_true (by kernel_rfl)) rfl 60 Yj (fun _=>?_) K pre
 simp only[aa.all,ax,bne_iff_ne,ne_eq,bne_eq_false_iff_eq]
 refine⟨⟨by omega,by omega,by omega,by omega⟩,fun hs=>⟨fun hl=>bt ?_,fun hl=>bt ?_⟩,fun hs=>⟨by omega,⟨by omega,by omega,a3,b3⟩,fun hd=>⟨⟨by omega,by omega,a1,b1⟩,by omega,fun hc=>bt ?_,fun hc=>bt ?_⟩,fun hd=>⟨by omega,fun hp=>⟨hp,fun hp2=>?_,fun hp2=>⟨⟨by omega,by omega,a1,b2,by omega,by omega,b1,a2,m1,m2⟩,by omega,fun hc=>bt ?_,fun hc=>bt ?_⟩⟩,fun hp=>⟨hp,fun h=>by simp at h,fun _=>⟨⟨by omega,by omega,a1,b2,by omega,by omega,b1,a2,m1,m2⟩,by omega,fun hc=>bt ?_,fun hc=>bt ?_⟩⟩⟩⟩⟩
 ·rw[Cn hs,if_pos (of_decide_eq_true hl)]
 ·rw[Cn hs,if_neg (of_decide_eq_false hl)]
 ·have hd:=of_decide_eq_true hd
  have e:q.den=r.den:=by split at hd<;>split at hd<;>omega
  rw[m9 hs,if_pos (of_decide_eq_true hc),e,Oe (by omega),Dd]
 ·have hd:=of_decide_eq_true hd
  have e:q.den=r.den:=by split at hd<;>split at hd<;>omega
  rw[m9 hs,if_neg (of_decide_eq_false hc),e,Oe (by omega)]
 ·have hp2:=iL hp2
  obtain⟨q1,q2⟩:=oG hp
  obtain⟨r1,r2⟩:=oG hp2
  rw[if_pos hp,if_pos hp2,if_pos hp2,if_pos hp,(mS q1 r2).1,(mS r1 q2).1]
  have hcs:=m9 hs
  generalize q.num.natAbs*r.den=X at*
  generalize r.num.natAbs*q.den=Y at*
  unfold cH at hcs
  refine⟨fun h1=>⟨by omega,fun hc=>bt ?_,fun hc=>bt ?_⟩,fun h1=>⟨fun h2=>⟨by omega,fun hc=>bt ?_,fun hc=>bt ?_⟩,fun h2=>⟨by omega,fun hc=>bt ?_,fun hc=>bt ?_⟩⟩⟩
  all_goals rw[hcs]
  ·rw[if_pos (of_decide_eq_true hc),if_pos (by have:=of_decide_eq_true h1;omega)];rfl
  ·rw[if_neg (of_decide_eq_false hc),if_pos (by have:=of_decide_eq_true h1;omega)]
  ·rw[if_pos (of_decide_eq_true hc),if_neg (by have:=of_decide_eq_false h1;omega),if_pos (by have:=of_decide_eq_true h2;omega)]
  ·rw[if_neg (of_decide_eq_false hc),if_neg (by have:=of_decide_eq_false h1;omega),if_pos (by have:=of_decide_eq_true h2;omega)]
  ·rw[if_pos (of_decide_eq_true hc),if_neg (by have:=of_decide_eq_false h1;omega),if_neg (by have:=of_decide_eq_false h2;omega)];rfl
  ·rw[if_neg (of_decide_eq_false hc),if_neg (by have:=of_decide_eq_false h1;omega),if_neg (by have:=of_decide_eq_false h2;omega)]
 ·rw[m9 hs,if_pos (of_decide_eq_true hc),Dd]
 ·rw[m9 hs,if_neg (of_decide_eq_false hc)]
 ·rw[m9 hs,if_pos (of_decide_eq_true hc),Dd]
 ·rw[m9 hs,if_neg (of_decide_eq_false hc)]
theorem aej:∀K args pre r,Pr K args pre=some r→aA P js K args pre r:=by
 refine bV fun K args r hk hs _=>?_
 split at hs
 ·simp only[Option.some.injEq]at hs
  subst hs
  exact fun need=>Iu need.1 need.2 K [] trivial
 ·simp at hs
theorem YV:∀K args pre r,Et.2 K args pre=some r→aA P Et.1 K args pre r:=ae5
theorem wN:aY P GA:=aG ae4 (aG aej (aG YV (aG S5 (aG Jr (aG PL bq)))))
section ops
variable {q r:Rat} {n m:Nat}
theorem OP (hn:n<2^42) (hm':m<2^42) (K:Nat):aA P xF K [.rat q n,.rat r m] [] (aH (.rat (q+r) (n+m+1)) []):=by
 refine bJ hT wN hm V4 rfl (of_decide_eq_true (by kernel_rfl)) rfl 60 QW (fun _=>?_) K []
 simp only[aa.all,ax,jN]
 exact⟨⟨by omega,by omega,by omega,hn,hm',by omega⟩,by omega,.refl _⟩
theorem ahC (r:Rat):sQ (!decide (r<0)) r.num.natAbs r.den=-r:=by
 have h:=jN r
 conv=>rhs;rw[←h]
 unfold sQ
 rw[Rat.neg_mkRat]
 congr 1
 unfold fq
 by_cases h:r<0<;>simp[h]
theorem OV (hn:n<2^42) (hm':m<2^42) (K:Nat):aA P Aa K [.rat q n,.rat r m] [] (aH (.rat (q-r) (n+m+1)) []):=by
 refine bJ hT wN hm Zg rfl (of_decide_eq_true (by kernel_rfl)) rfl 60 Zb (fun _=>?_) K []
 simp only[aa.all,ax,ahC]
 exact⟨⟨by omega,by omega,by omega,hn,hm',by omega⟩,by omega,cY (by rw[Rat.sub_eq_add_neg])⟩
def Cy (q r:Rat):Rat:=if r<q then r else q
def CQ (q r:Rat):Rat:=if q<r then r else q
theorem lF {q r:Rat}:dc q r<0↔q<r:=by unfold dc;grind
theorem qf {q r:Rat}:dc q r>0↔r<q:=by unfold dc;grind
theorem ahk (hn:n<2^42) (hm':m<2^42) (K:Nat):aA P BV K [.rat q n,.rat r m] [] (aH (.rat (Cy q r) (max n m)) []):=by
 refine bJ hT wN hm YX rfl (of_decide_eq_true (by kernel_rfl)) rfl 60 abL (fun _=>?_) K []
 simp only[aa.all,ax,decide_eq_true_eq,decide_eq_false_iff_not,lF]
 refine⟨⟨by omega,by omega,hm',hn⟩,fun h=>⟨⟨by omega,by omega⟩,⟨by omega,by omega,by omega⟩,by omega,?_⟩,fun h=>⟨⟨by omega,by omega,by omega⟩,by omega,?_⟩⟩
 ·unfold Cy;rw[if_pos h];exact fe (Nat.le_max_right _ _)
 ·unfold Cy;rw[if_neg h];exact fe (Nat.le_max_left _ _)
theorem QX (hn:n<2^42) (hm':m<2^42) (K:Nat):aA P BP K [.rat q n,.rat r m] [] (aH (.rat (CQ q r) (max n m)) []):=by
 refine bJ hT wN hm akh rfl (of_decide_eq_true (by kernel_rfl)) rfl 60 aju (fun _=>?_) K []
 simp only[aa.all,ax,decide_eq_true_eq,decide_eq_false_iff_not,qf]
 refine⟨⟨by omega,by omega,hm',hn⟩,fun h=>⟨⟨by omega,by omega⟩,⟨by omega,by omega,by omega⟩,by omega,?_⟩,fun h=>⟨⟨by omega,by omega,by omega⟩,by omega,?_⟩⟩
 ·unfold CQ;rw[if_pos h];exact fe (Nat.le_max_right _ _)
 ·unfold CQ;rw[if_neg h];exact fe (Nat.le_max_left _ _)
theorem ahx {n:Int}:sQ (decide (n<0)) n.natAbs 1=(n:Rat):=by
 unfold sQ
 have:fq (decide (n<0)) n.natAbs=n:=by unfold fq;by_cases h:n<0<;>simp[h]<;>omega
 rw[this,Rat.mkRat_one]
theorem IG {n:Int}:Sz (n:Rat) (max 1 (bu n.natAbs)):=by
 refine⟨?_,?_⟩
 ·rw[Rat.num_intCast]
  exact Nat.lt_of_lt_of_le (iJ.1 (Nat.le_refl _)) (Nat.pow_le_pow_right (by omega) (Nat.le_max_right _ _))
 ·rw[Rat.den_intCast]
  exact Nat.lt_of_lt_of_le (show 1<2^1 by omega) (Nat.pow_le_pow_right (by omega) (Nat.le_max_left _ _))
theorem G7 {n:Int} (h1:-2^63≤n) (h2:n<2^63) (K:Nat):aA P rq K [.int .i64 n] [] (aH (.rat (n:Rat) (max 1 (bu n.natAbs))) []):=by
 refine bJ hT wN hm Yy rfl (of_decide_eq_true (by kernel_rfl)) rfl 60 Zn (fun _=>?_) K []
 simp only[aa.all,ax,ahx]
 exact⟨⟨h1,h2,jv (n:=64) (by omega) (by omega),by decide,by omega⟩,by omega,ey rfl IG⟩
theorem Ki (hn:n<2^42) (hm':m<2^42) (K:Nat):aA P ze K [.rat q n,.rat r m] [] (aH (.rat (q*r) (n+m)) []):=by
 refine iK fun⟨hq,hr,_⟩=>?_
 have hq:Sz q n:=hq
 have hr:Sz r m:=hr
 obtain⟨a1,a2,a3⟩:=Sz.iQ hq (by omega)
 obtain⟨b1,b2,b3⟩:=Sz.iQ hr (by omega)
 have d1:=q.den_nz
 have d2:=r.den_nz
 have m1:nl (q.num.natAbs*r.num.natAbs)<2^40:=jv (n:=n+m) (by rw[Nat.pow_add];exact Nat.mul_lt_mul'' hq.1 hr.1) (by omega)
 have m2:nl (q.den*r.den)<2^40:=jv (n:=n+m) (by rw[Nat.pow_add];exact Nat.mul_lt_mul'' hq.2 hr.2) (by omega)
 have hz:=hq.mul hr
 have hv:sQ (decide (q<0)!=decide (r<0)) (q.num.natAbs*r.num.natAbs) (q.den*r.den)=q*r:=by rw[←Hr,jN,jN]
 have hzero:q=0∨r=0→bw (.agg [.bool false,.mag 0,.mag 0]) (.rat (q*r) (n+m)):=by
  intro h
  have e:q*r=0:=by rcases h with h|h<;>subst h<;>simp
  obtain⟨k,hk⟩:∃k,n+m=k+1:=⟨n+m-1,by have:=hq.pos;omega⟩
  rw[e,hk];exact lR
 refine bJ hT j9 hm ae6 rfl (of_decide_eq_true (by kernel_rfl)) rfl 60 Y5 (fun _=>?_) K []
 have hlong:(aa.ag
         [(0:Nat)<1,(0:Nat)<1,(0:Nat)<1,(0:Nat)<1,nl q.num.natAbs<2^40,nl r.num.natAbs<2^40,(0:Nat)<1,(0:Nat)<1,nl q.den<2^40,nl r.den<2^40,nl (q.num.natAbs*r.num.natAbs)<2^40,nl (q.den*r.den)<2^40,(0:Nat)<1]
         (aa.ag [(0:Nat)<1]
          (aa.leaf ak.ret
           [AV.rat (sQ (decide (q<(0:Rat))!=decide (r<(0:Rat))) (q.num.natAbs*r.num.natAbs) (q.den*r.den))
             (cz (sQ (decide (q<(0:Rat))!=decide (r<(0:Rat))) (q.num.natAbs*r.num.natAbs) (q.den*r.den)))]))).all fun _ us=>dL us (.rat (q*r) (n+m)):=by
  simp only[aa.all,ax]
  exact⟨⟨by omega,by omega,by omega,by omega,a1,b1,by omega,by omega,a2,b2,m1,m2,by omega⟩,by omega,ey hv hz⟩
 refine⟨fun hb=>⟨⟨show 0<1 by omega,hb⟩,fun _=>⟨show 0<1 by omega,show 0<1 by omega,hzero (.inl ?_)⟩,fun h=>by simp at h⟩,fun hb=>⟨⟨show 0<1 by omega,hb,show 0<1 by omega⟩,fun hc=>⟨show 0<1 by omega,show 0<1 by omega,hzero (.inr ?_)⟩,fun hc=>⟨show 0<1 by omega,fun h1=>⟨show 0<1 by omega,fun h2=>?_,fun h2=>hlong⟩,fun h1=>hlong⟩⟩⟩
 ·have:=eq_of_beq hb
  exact mB.1 (iC.1 (by omega))
 ·have:=eq_of_beq (gE hc)
  exact mB.1 (iC.1 (by omega))
 ·obtain⟨q1,q2⟩:=oG h1
  obtain⟨r1,r2⟩:=oG h2
  obtain⟨wx,bx⟩:=mS q1 r1
  obtain⟨wd,bd⟩:=mS q2 r2
  have hd0:q.den*r.den≠0:=Nat.mul_ne_zero d1 d2
  rw[if_pos h1,if_pos h2,if_pos h1,if_pos h2,wx,wd]
  simp only[aa.all,ax,Int.toNat_natCast]
  exact⟨⟨by omega,by omega,by omega,by omega,by omega⟩,by omega,ey hv hz⟩
theorem Ia (q r:Rat) (hr:r≠0):sQ (decide (q<0)!=decide (r<0)) (q.num.natAbs*r.den) (q.den*r.num.natAbs)=q/r:=by
 have hn:r.num≠0:=fun h=>hr (Rat.num_eq_zero.1 h)
 have hi:r⁻¹=sQ (decide (r<0)) r.den r.num.natAbs:=by
  rw[←jN r⁻¹]
  have e1:r⁻¹.num.natAbs=r.den:=by rw[Rat.num_inv,Int.natAbs_mul,Int.natAbs_natCast,Int.natAbs_sign_of_ne_zero hn,Nat.one_mul]
  have e2:r⁻¹.den=r.num.natAbs:=by rw[Rat.den_inv,if_neg hn]
  have e3:decide (r⁻¹<0)=decide (r<0):=by
   rw[decide_eq_decide,ic,ic,Rat.num_inv]
   have hd:=r.den_nz
   have hd':(0:Int)<(r.den:Int):=by omega
   rcases Int.lt_trichotomy r.num 0 with h|h|h
   ·rw[Int.sign_eq_neg_one_of_neg h];omega
   ·exact absurd h hn
   ·rw[Int.sign_eq_one_of_pos h];omega
  rw[e1,e2,e3]
 rw[Rat.div_def,hi]
 conv=>rhs;rw[←jN q]
 rw[Hr]
theorem E5 (hn:n<2^42) (hm':m<2^42) (K:Nat):aA P s9 K [.rat q n,.rat r m] [] (aH (.tuple [.rat (q/r) (n+m),.int .i64 (if r=0 then 3 else 0)]) []):=by
 refine iK fun⟨hq,hr,_⟩=>?_
 have hq:Sz q n:=hq
 have hr:Sz r m:=hr
 obtain⟨a1,a2,a3⟩:=Sz.iQ hq (by omega)
 obtain⟨b1,b2,b3⟩:=Sz.iQ hr (by omega)
 have d1:=q.den_nz
 have d2:=r.den_nz
 have m1:nl (q.num.natAbs*r.den)<2^40:=jv (n:=n+m) (by rw[Nat.pow_add];exact Nat.mul_lt_mul'' hq.1 hr.2) (by omega)
 have m2:nl (q.den*r.num.natAbs)<2^40:=jv (n:=n+m) (by rw[Nat.pow_add];exact Nat.mul_lt_mul'' hq.2 hr.1) (by omega)
 have hz:=hq.div hr
 have sg:∀{x:Rat},ew x=0↔x=0:=by intro x;unfold ew;grind
 refine bJ hT j9 hm Ua rfl (of_decide_eq_true (by kernel_rfl)) rfl 60 Xt (fun _=>?_) K []
 refine⟨⟨show 0<1 by omega,show m<2^44 by omega⟩,fun hb=>⟨show 0<1 by omega,show 0<1 by omega,?_,?_,trivial⟩,fun hb=>⟨show 0<1 by omega,?_⟩⟩
 ·have h0:r=0:=sg.1 (eq_of_beq hb)
  have e:q/r=0:=by rw[h0,Rat.div_def,Rat.inv_zero,Rat.mul_zero]
  obtain⟨k,hk⟩:∃k,n+m=k+1:=⟨n+m-1,by have:=hq.pos;omega⟩
  rw[e,hk];exact lR
 ·have h0:r=0:=sg.1 (eq_of_beq hb)
  exact bt (by rw[if_pos h0])
 have h0:r≠0:=fun h=>by
  rw[h]at hb
  simp[ew]at hb
 have hv:=Ia q r h0
 have he:bw (.int .i64 0) (.int .i64 (if r=0 then 3 else 0)):=bt (by rw[if_neg h0])
 have hlong:(aa.ag
         [(0:Nat)<1,(0:Nat)<1,(0:Nat)<1,(0:Nat)<1,nl q.num.natAbs<2^40,nl r.den<2^40,(0:Nat)<1,(0:Nat)<1,nl q.den<2^40,nl r.num.natAbs<2^40,nl (q.num.natAbs*r.den)<2^40,nl (q.den*r.num.natAbs)<2^40,(0:Nat)<1]
         (aa.ag [(0:Nat)<1]
          (aa.leaf ak.ret
           [AV.rat (sQ (decide (q<(0:Rat))!=decide (r<(0:Rat))) (q.num.natAbs*r.den) (q.den*r.num.natAbs))
             (cz (sQ (decide (q<(0:Rat))!=decide (r<(0:Rat))) (q.num.natAbs*r.den) (q.den*r.num.natAbs))),.int .i64 0]))).all fun _ us=>dL us (.tuple [.rat (q/r) (n+m),.int .i64 (if r=0 then 3 else 0)]):=by
  simp only[aa.all,ax]
  exact⟨⟨by omega,by omega,by omega,by omega,a1,b2,by omega,by omega,a2,b1,m1,m2,by omega⟩,by omega,ey hv hz,he,trivial⟩
 refine⟨fun h1=>⟨show 0<1 by omega,fun h2=>?_,fun h2=>hlong⟩,fun h1=>hlong⟩
 obtain⟨q1,q2⟩:=oG h1
 obtain⟨r1,r2⟩:=oG h2
 obtain⟨wx,bx⟩:=mS q1 r2
 obtain⟨wd,bd⟩:=mS q2 r1
 have hr0:r.num.natAbs≠0:=fun h=>h0 (mB.1 h)
 have hd0:q.den*r.num.natAbs≠0:=Nat.mul_ne_zero d1 hr0
 rw[if_pos h1,if_pos h2,if_pos h1,if_pos h2,wx,wd]
 simp only[aa.all,ax,Int.toNat_natCast]
 exact⟨⟨by omega,by omega,by omega,by omega,by omega⟩,by omega,ey hv hz,he,trivial⟩
end ops
def N8:Spec:=bE fun l=>match l with
 |[.int .i64 n]=>some (aH (.rat (n:Rat) (max 1 (bu n.natAbs))) [-2^63≤n,n<2^63])
 |_=>none
theorem Xp:∀K args pre r,N8 K args pre=some r→aA P rq K args pre r:=by
 refine bV fun K args r hk hs _=>?_
 split at hs
 ·simp only[Option.some.injEq]at hs
  subst hs
  exact fun need=>G7 need.1 need.2 K trivial
 ·simp at hs
end Go.Am.B
