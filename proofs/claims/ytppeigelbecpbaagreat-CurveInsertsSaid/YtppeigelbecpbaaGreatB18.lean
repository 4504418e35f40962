/- rational.den, parts, Same, Sign, copied, size: their contracts. -/
import Derived.Test.YtppeigelbecpbaaGreatB17
set_option linter.unusedVariables false
namespace Go.Am.B
open Go Go.Am.N AV
theorem Z6 {q:Rat} {n:Nat} (K:Nat) (pre:aC):aA P tC K [.rat q n] pre (aG (.mag q.den) []):=by
 refine bJ hT lV hm Vh rfl (of_decide_eq_true (by kernel_rfl)) rfl 60 Ww (fun _=>?_) K pre
 simp only[aa.all,ax,beq_iff_eq,beq_eq_false_iff_ne,ne_eq]
 refine⟨by omega,fun hb=>cX ?_,fun hb=>⟨by omega,cX ?_⟩⟩
 ·have h0:=q.den_nz
  have:(if q.den=1 then 0 else q.den)=0:=iL.1 (by omega)
  split at this
  ·rename_i h;rw[h]
  ·omega
 ·split
  ·rename_i h;rw[if_pos h]at hb;exact absurd (by decide) hb
  ·rfl
def Ga:Spec:=bE fun l=>match l with
 |[.rat q _]=>some (aG (.mag q.den) [])
 |_=>none
theorem J9:∀K args pre r,Ga K args pre=some r→aA P tC K args pre r:=by
 refine bX fun K args r hk hs _=>?_
 split at hs
 ·simp only[Option.some.injEq]at hs
  subst hs
  exact Z6 K []
 ·simp at hs
def dA (q:Rat):Bool:=decide (q.num.natAbs<4294967296)&&decide (q.den<4294967296)
abbrev sA (q:Rat):AV:=.tuple [.int .u64 (if dA q then q.num.natAbs else 0:Nat),.int .u64 (if dA q then q.den else 0:Nat),.bool (dA q)]
theorem uG {N:Nat}:nl N≤1↔N<4294967296:=cT
theorem Xu {q:Rat} {n:Nat} (K:Nat) (pre:aC):aA P uY K [.rat q n] pre (aG (sA q) []):=by
 refine bJ hT lV hm Zj rfl (of_decide_eq_true (by kernel_rfl)) rfl 60 aaG (fun _=>?_) K pre
 simp only[aa.all,ax,beq_iff_eq,beq_eq_false_iff_ne,ne_eq,decide_eq_true_eq,decide_eq_false_iff_not,Int.toNat_zero]
 have hd:=q.den_nz
 have no:¬(q.num.natAbs<4294967296∧q.den<4294967296)→dI [.int .u64 0,.int .u64 0,.bool false] (sA q):=by
  intro h
  have:dA q=false:=by
   unfold dA
   by_cases h1:q.num.natAbs<4294967296
   ·simp[h1];omega
   ·simp[h1]
  unfold sA
  rw[this]
  exact⟨.refl _,.refl _,.refl _,trivial⟩
 have yes:∀{x:Int} {v:Bool},q.num.natAbs<4294967296∧q.den<4294967296→x=(q.den:Nat)→v=true→dI [.int .u64 (q.num.natAbs:Nat),.int .u64 x,.bool v] (sA q):=by
  intro x v h hx hv
  have:dA q=true:=by unfold dA;simp[h]
  unfold sA
  rw[this]
  exact⟨.refl _,bt hx,eP hv,trivial⟩
 have hden:∀{m:Nat},nl (if q.den=1 then 0 else q.den)≤m↔(q.den=1∨nl q.den≤m):=by
  intro m
  by_cases h:q.den=1
  ·simp[h];simp[nl]
  ·simp[h]
 refine⟨fun hb=>⟨⟨by omega,hb⟩,fun _=>no ?_,fun h=>by simp at h⟩,fun hb=>⟨⟨by omega,hb,by omega⟩,fun hc=>no ?_,fun hc=>⟨by omega,fun h1=>⟨⟨by omega,by omega,by omega⟩,⟨by omega,by omega⟩,?_⟩,fun h1=>⟨⟨by omega,by omega⟩,yes ?_ ?_ rfl⟩⟩⟩⟩
 ·have:=uG (N:=q.num.natAbs);omega
 ·have h2:=of_decide_eq_true (gJ hc)
  have h3:=hden (m:=1)
  have h4:=uG (N:=q.den)
  omega
 ·have h2:=of_decide_eq_false (gJ hc)
  have hn1:q.den≠1:=fun h=>by rw[if_pos h]at h1;simp[nl]at h1
  rw[if_neg hn1]at h1 h2 ⊢
  have h4:=(uG (N:=q.den)).1 (by omega)
  have h5:=(uG (N:=q.num.natAbs)).1 (by omega)
  have hl:az q.den 0=q.den:=by
   have:=fu (N:=q.den)
   rw[show nl q.den=1 by omega,val,val]at this
   simpa using this
  rw[hl,bO (by omega) (by omega)]
  exact yes ⟨h5,h4⟩ rfl (by simp;omega)
 ·have h2:=of_decide_eq_false (gJ hc)
  have h3:=hden (m:=1)
  have h3':=hden (m:=0)
  have h4:=uG (N:=q.den)
  have h5:=uG (N:=q.num.natAbs)
  have h6:=fB (N:=q.den)
  omega
 ·have h2:=of_decide_eq_false (gJ hc)
  have h3:=hden (m:=0)
  have h6:=fB (N:=q.den)
  omega
def Oz:Spec:=bE fun l=>match l with
 |[.rat q _]=>some (aG (sA q) [])
 |_=>none
theorem aiB:∀K args pre r,Oz K args pre=some r→aA P uY K args pre r:=by
 refine bX fun K args r hk hs _=>?_
 split at hs
 ·simp only[Option.some.injEq]at hs
  subst hs
  exact Xu K []
 ·simp at hs
theorem pR {q r:Rat}:q=r↔(decide (q<0)=decide (r<0))∧q.num.natAbs=r.num.natAbs∧(if q.den=1 then 0 else q.den)=(if r.den=1 then 0 else r.den):=by
 constructor
 ·intro h;subst h;exact⟨rfl,rfl,rfl⟩
 ·rintro⟨h1,h2,h3⟩
  have hd:q.den=r.den:=by
   have:=q.den_nz
   have:=r.den_nz
   split at h3<;>split at h3<;>omega
  rw[←jR q,←jR r,h1,h2,hd]
theorem Je {q r:Rat} {n m:Nat} (hn:n<2^44) (hm':m<2^44) (K:Nat) (pre:aC):aA P fW K [.rat q n,.rat r m] pre (aG (.bool (decide (q=r))) []):=by
 refine iC fun⟨hs1,hs2,_⟩=>?_
 obtain⟨a1,a2,a3⟩:=Sz.iJ hs1 hn
 obtain⟨b1,b2,b3⟩:=Sz.iJ hs2 hm'
 refine bJ hT lV hm YS rfl (of_decide_eq_true (by kernel_rfl)) rfl 60 adM (fun _=>?_) K pre
 simp only[aa.all,ax]
 refine⟨fun hb=>⟨fun hc=>⟨⟨by omega,by omega,hb,by omega,by omega,a1,b1,hc,by omega,by omega,a3,b3⟩,eP ?_⟩,fun hc=>⟨⟨by omega,by omega,hb,by omega,by omega,a1,b1,hc⟩,eP ?_⟩⟩,fun hb=>⟨fun h=>by simp at h,fun _=>⟨⟨by omega,by omega,hb,trivial⟩,eP ?_⟩⟩⟩
 ·have h1:=eq_of_beq hb
  have h2:=of_decide_eq_true (iR hc)
  rw[cond_true]
  exact decide_eq_decide.2 ⟨fun h=>pR.2 ⟨h1,h2,h⟩,fun h=>(pR.1 h).2.2⟩
 ·have h2:=of_decide_eq_false (iR hc)
  exact(decide_eq_false fun h=>h2 (pR.1 h).2.1).symm
 ·refine(decide_eq_false fun h=>?_).symm
  rw[(pR.1 h).1]at hb
  simp at hb
theorem me {q:Rat}:q.num.natAbs=0↔q=0:=by rw[Int.natAbs_eq_zero,Rat.num_eq_zero]
theorem K0 {q:Rat} (h:q≠0) (h2:¬q<0):0<q:=by
 rw[Rat.lt_iff]
 have h3:¬q.num<0:=fun h=>h2 (iu.2 h)
 have h4:q.num≠0:=fun h5=>h (Rat.num_eq_zero.1 h5)
 simp;omega
theorem Ew {q:Rat} {n:Nat} (hn:n<2^44) (K:Nat) (pre:aC):aA P qp K [.rat q n] pre (aG (.int .i64 (ey q)) []):=by
 refine iC fun⟨hs1,_⟩=>?_
 obtain⟨a1,a2,a3⟩:=Sz.iJ hs1 hn
 refine bJ hT lV hm ah9 rfl (of_decide_eq_true (by kernel_rfl)) rfl 60 Wg (fun _=>?_) K pre
 simp only[aa.all,ax,beq_iff_eq,beq_eq_false_iff_ne,ne_eq]
 refine⟨⟨by omega,a1⟩,fun hb=>bt ?_,fun hb=>⟨by omega,fun hc=>bt ?_,fun hc=>bt ?_⟩⟩
 ·have h0:q=0:=me.1 (Fx.1 (by omega))
  subst h0
  rfl
 ·have:=of_decide_eq_true hc
  unfold ey;rw[if_pos this]
 ·have h1:=of_decide_eq_false hc
  have h0:q≠0:=fun h=>hb (by rw[h];rfl)
  unfold ey;rw[if_neg h1,if_pos (K0 h0 h1)]
def Qf:Spec:=bE fun l=>match l with
 |[.rat q n]=>some (aG (.int .i64 (ey q)) [n<2^44])
 |_=>none
theorem ajJ:∀K args pre r,Qf K args pre=some r→aA P qp K args pre r:=by
 refine bX fun K args r hk hs _=>?_
 split at hs
 ·simp only[Option.some.injEq]at hs
  subst hs
  exact fun need=>Ew need K [] trivial
 ·simp at hs
theorem Lm {q:Rat} {n:Nat} (h:Sz q n):bw (.agg [.bool (decide (q<0)),.mag q.num.natAbs,.mag (if q.den=1 then 0 else q.den)]) (.rat q n):=qR h rfl rfl rfl
theorem YF {q:Rat} {n:Nat} (hn:n<2^44) (K:Nat) (pre:aC):aA P zF K [.rat q n] pre (aG (.rat q n) []):=by
 refine iC fun⟨hs1,_⟩=>?_
 have hs1:Sz q n:=hs1
 obtain⟨a1,a2,a3⟩:=Sz.iJ hs1 hn
 refine bJ hT lV hm aes rfl (of_decide_eq_true (by kernel_rfl)) rfl 60 Vr (fun _=>?_) K pre
 simp only[aa.all,ax]
 exact⟨⟨by omega,by omega,a1,by omega,a3,by omega⟩,by omega,Lm hs1⟩
def ME:Spec:=bE fun l=>match l with
 |[.rat q n]=>some (aG (.rat q n) [n<2^44])
 |_=>none
theorem aay:∀K args pre r,ME K args pre=some r→aA P zF K args pre r:=by
 refine bX fun K args r hk hs _=>?_
 split at hs
 ·simp only[Option.some.injEq]at hs
  subst hs
  exact fun need=>YF need K [] trivial
 ·simp at hs
theorem XE {n:Int} (h1:-2^63≤n) (h2:n<2^63) (K:Nat) (pre:aC):aA P xy K [.int .i64 n] pre (aG (.mag n.natAbs) []):=by
 refine bJ hT lV hm afe rfl (of_decide_eq_true (by kernel_rfl)) rfl 60 RI (fun _=>?_) K pre
 simp only[aa.all,ax,beq_iff_eq,beq_eq_false_iff_ne,ne_eq]
 refine⟨fun hb=>⟨by omega,cX ?_⟩,fun hb=>?_⟩
 ·subst hb;rfl
 ·have e:IntKind.i64.wrap (0-n)=-n:=by rw[wrap_i64 (by omega) (by omega)];omega
  rw[e]
  have e2 : IntKind.u64.wrap (if n < -n then -n else n) = ((n.natAbs : Nat) : Int) := by
   rw[bO (by split<;>omega) (by split<;>omega)]
   split<;>omega
  rw[e2]
  refine⟨⟨by omega,by omega⟩,cX (by rw[Int.toNat_natCast])⟩
def KL:Spec:=bE fun l=>match l with
 |[.int .i64 n]=>some (aG (.mag n.natAbs) [-2^63≤n,n<2^63])
 |_=>none
theorem ahY:∀K args pre r,KL K args pre=some r→aA P xy K args pre r:=by
 refine bX fun K args r hk hs _=>?_
 split at hs
 ·simp only[Option.some.injEq]at hs
  subst hs
  exact fun need=>XE need.1 need.2 K [] trivial
 ·simp at hs
def F6:Spec:=bE fun l=>match l with
 |[.bool b,x,y]=>match ir x,ir y with
  |some N,some D=>some (aG (.rat (sQ b N D) (cz (sQ b N D))) [nl N<2^40,nl D<2^40])
  |_,_=>none
 |_=>none
theorem LI:∀K args pre r,F6 K args pre=some r→aA P tL K args pre r:=by
 refine bX fun K args r hk hs _=>?_
 split at hs
 ·split at hs
  ·rename_i N D h1 h2
   simp only[Option.some.injEq]at hs
   subst hs
   exact fun need=>fO (Y8 need.1 need.2 K []) hk ⟨.refl _,kr h1,kr h2,trivial⟩ [] trivial
  ·simp at hs
 ·simp at hs
end Go.Am.B
