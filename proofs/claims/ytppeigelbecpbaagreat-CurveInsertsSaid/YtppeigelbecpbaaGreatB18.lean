/- rational.den, parts, Same, Sign, copied, size: their contracts. -/
import Derived.Test.YtppeigelbecpbaaGreatB17
set_option linter.unusedVariables false
namespace Go.Am.B
open Go Go.Am.N AV
theorem TN {q:Rat} {n:Nat} (K:Nat) (pre:aC):aA P tS K [.rat q n] pre (aH (.mag q.den) []):=by
 refine bJ hT l5 hm ZV rfl (of_decide_eq_true (by kernel_rfl)) rfl 60 aeC (fun _=>?_) K pre
 simp only[aa.all,ax,beq_iff_eq,beq_eq_false_iff_ne,ne_eq]
 refine⟨by omega,fun hb=>cY ?_,fun hb=>⟨by omega,cY ?_⟩⟩
 ·have h0:=q.den_nz
  have:(if q.den=1 then 0 else q.den)=0:=iC.1 (by omega)
  split at this
  ·rename_i h;rw[h]
  ·omega
 ·split
  ·rename_i h;rw[if_pos h]at hb;exact absurd (by decide) hb
  ·rfl
def IJ:Spec:=bE fun l=>match l with
 |[.rat q _]=>some (aH (.mag q.den) [])
 |_=>none
theorem Nc:∀K args pre r,IJ K args pre=some r→aA P tS K args pre r:=by
 refine bV fun K args r hk hs _=>?_
 split at hs
 ·simp only[Option.some.injEq]at hs
  subst hs
  exact TN K []
 ·simp at hs
def dB (q:Rat):Bool:=decide (q.num.natAbs<4294967296)&&decide (q.den<4294967296)
abbrev uq (q:Rat):AV:=.tuple [.int .u64 (if dB q then q.num.natAbs else 0:Nat),.int .u64 (if dB q then q.den else 0:Nat),.bool (dB q)]
theorem tN {N:Nat}:nl N≤1↔N<4294967296:=cU
theorem ago {q:Rat} {n:Nat} (K:Nat) (pre:aC):aA P y9 K [.rat q n] pre (aH (uq q) []):=by
 refine bJ hT l5 hm Xq rfl (of_decide_eq_true (by kernel_rfl)) rfl 60 UX (fun _=>?_) K pre
 simp only[aa.all,ax,beq_iff_eq,beq_eq_false_iff_ne,ne_eq,decide_eq_true_eq,decide_eq_false_iff_not,Int.toNat_zero]
 have hd:=q.den_nz
 have no:¬(q.num.natAbs<4294967296∧q.den<4294967296)→dL [.int .u64 0,.int .u64 0,.bool false] (uq q):=by
  intro h
  have:dB q=false:=by
   unfold dB
   by_cases h1:q.num.natAbs<4294967296
   ·simp[h1];omega
   ·simp[h1]
  unfold uq
  rw[this]
  exact⟨.refl _,.refl _,.refl _,trivial⟩
 have yes:∀{x:Int} {v:Bool},q.num.natAbs<4294967296∧q.den<4294967296→x=(q.den:Nat)→v=true→dL [.int .u64 (q.num.natAbs:Nat),.int .u64 x,.bool v] (uq q):=by
  intro x v h hx hv
  have:dB q=true:=by unfold dB;simp[h]
  unfold uq
  rw[this]
  exact⟨.refl _,bt hx,eM hv,trivial⟩
 have hden:∀{m:Nat},nl (if q.den=1 then 0 else q.den)≤m↔(q.den=1∨nl q.den≤m):=by
  intro m
  by_cases h:q.den=1
  ·simp[h];simp[nl]
  ·simp[h]
 refine⟨fun hb=>⟨⟨by omega,hb⟩,fun _=>no ?_,fun h=>by simp at h⟩,fun hb=>⟨⟨by omega,hb,by omega⟩,fun hc=>no ?_,fun hc=>⟨by omega,fun h1=>⟨⟨by omega,by omega,by omega⟩,⟨by omega,by omega⟩,?_⟩,fun h1=>⟨⟨by omega,by omega⟩,yes ?_ ?_ rfl⟩⟩⟩⟩
 ·have:=tN (N:=q.num.natAbs);omega
 ·have h2:=of_decide_eq_true (gE hc)
  have h3:=hden (m:=1)
  have h4:=tN (N:=q.den)
  omega
 ·have h2:=of_decide_eq_false (gE hc)
  have hn1:q.den≠1:=fun h=>by rw[if_pos h]at h1;simp[nl]at h1
  rw[if_neg hn1]at h1 h2 ⊢
  have h4:=(tN (N:=q.den)).1 (by omega)
  have h5:=(tN (N:=q.num.natAbs)).1 (by omega)
  have hl:az q.den 0=q.den:=by
   have:=fz (N:=q.den)
   rw[show nl q.den=1 by omega,val,val]at this
   simpa using this
  rw[hl,bN (by omega) (by omega)]
  exact yes ⟨h5,h4⟩ rfl (by simp;omega)
 ·have h2:=of_decide_eq_false (gE hc)
  have h3:=hden (m:=1)
  have h3':=hden (m:=0)
  have h4:=tN (N:=q.den)
  have h5:=tN (N:=q.num.natAbs)
  have h6:=fF (N:=q.den)
  omega
 ·have h2:=of_decide_eq_false (gE hc)
  have h3:=hden (m:=0)
  have h6:=fF (N:=q.den)
  omega
def Mg:Spec:=bE fun l=>match l with
 |[.rat q _]=>some (aH (uq q) [])
 |_=>none
theorem agt:∀K args pre r,Mg K args pre=some r→aA P y9 K args pre r:=by
 refine bV fun K args r hk hs _=>?_
 split at hs
 ·simp only[Option.some.injEq]at hs
  subst hs
  exact ago K []
 ·simp at hs
theorem oF {q r:Rat}:q=r↔(decide (q<0)=decide (r<0))∧q.num.natAbs=r.num.natAbs∧(if q.den=1 then 0 else q.den)=(if r.den=1 then 0 else r.den):=by
 constructor
 ·intro h;subst h;exact⟨rfl,rfl,rfl⟩
 ·rintro⟨h1,h2,h3⟩
  have hd:q.den=r.den:=by
   have:=q.den_nz
   have:=r.den_nz
   split at h3<;>split at h3<;>omega
  rw[←jN q,←jN r,h1,h2,hd]
theorem Qi {q r:Rat} {n m:Nat} (hn:n<2^44) (hm':m<2^44) (K:Nat) (pre:aC):aA P fY K [.rat q n,.rat r m] pre (aH (.bool (decide (q=r))) []):=by
 refine iK fun⟨hs1,hs2,_⟩=>?_
 obtain⟨a1,a2,a3⟩:=Sz.iQ hs1 hn
 obtain⟨b1,b2,b3⟩:=Sz.iQ hs2 hm'
 refine bJ hT l5 hm aez rfl (of_decide_eq_true (by kernel_rfl)) rfl 60 ag8 (fun _=>?_) K pre
 simp only[aa.all,ax]
 refine⟨fun hb=>⟨fun hc=>⟨⟨by omega,by omega,hb,by omega,by omega,a1,b1,hc,by omega,by omega,a3,b3⟩,eM ?_⟩,fun hc=>⟨⟨by omega,by omega,hb,by omega,by omega,a1,b1,hc⟩,eM ?_⟩⟩,fun hb=>⟨fun h=>by simp at h,fun _=>⟨⟨by omega,by omega,hb,trivial⟩,eM ?_⟩⟩⟩
 ·have h1:=eq_of_beq hb
  have h2:=of_decide_eq_true (iL hc)
  rw[cond_true]
  exact decide_eq_decide.2 ⟨fun h=>oF.2 ⟨h1,h2,h⟩,fun h=>(oF.1 h).2.2⟩
 ·have h2:=of_decide_eq_false (iL hc)
  exact(decide_eq_false fun h=>h2 (oF.1 h).2.1).symm
 ·refine(decide_eq_false fun h=>?_).symm
  rw[(oF.1 h).1]at hb
  simp at hb
theorem mB {q:Rat}:q.num.natAbs=0↔q=0:=by rw[Int.natAbs_eq_zero,Rat.num_eq_zero]
theorem J4 {q:Rat} (h:q≠0) (h2:¬q<0):0<q:=by
 rw[Rat.lt_iff]
 have h3:¬q.num<0:=fun h=>h2 (ic.2 h)
 have h4:q.num≠0:=fun h5=>h (Rat.num_eq_zero.1 h5)
 simp;omega
theorem Hz {q:Rat} {n:Nat} (hn:n<2^44) (K:Nat) (pre:aC):aA P qq K [.rat q n] pre (aH (.int .i64 (ew q)) []):=by
 refine iK fun⟨hs1,_⟩=>?_
 obtain⟨a1,a2,a3⟩:=Sz.iQ hs1 hn
 refine bJ hT l5 hm QS rfl (of_decide_eq_true (by kernel_rfl)) rfl 60 Tf (fun _=>?_) K pre
 simp only[aa.all,ax,beq_iff_eq,beq_eq_false_iff_ne,ne_eq]
 refine⟨⟨by omega,a1⟩,fun hb=>bt ?_,fun hb=>⟨by omega,fun hc=>bt ?_,fun hc=>bt ?_⟩⟩
 ·have h0:q=0:=mB.1 (Gj.1 (by omega))
  subst h0
  rfl
 ·have:=of_decide_eq_true hc
  unfold ew;rw[if_pos this]
 ·have h1:=of_decide_eq_false hc
  have h0:q≠0:=fun h=>hb (by rw[h];rfl)
  unfold ew;rw[if_neg h1,if_pos (J4 h0 h1)]
def Mn:Spec:=bE fun l=>match l with
 |[.rat q n]=>some (aH (.int .i64 (ew q)) [n<2^44])
 |_=>none
theorem ahi:∀K args pre r,Mn K args pre=some r→aA P qq K args pre r:=by
 refine bV fun K args r hk hs _=>?_
 split at hs
 ·simp only[Option.some.injEq]at hs
  subst hs
  exact fun need=>Hz need K [] trivial
 ·simp at hs
theorem Qz {q:Rat} {n:Nat} (h:Sz q n):bw (.agg [.bool (decide (q<0)),.mag q.num.natAbs,.mag (if q.den=1 then 0 else q.den)]) (.rat q n):=qK h rfl rfl rfl
theorem Tl {q:Rat} {n:Nat} (hn:n<2^44) (K:Nat) (pre:aC):aA P zB K [.rat q n] pre (aH (.rat q n) []):=by
 refine iK fun⟨hs1,_⟩=>?_
 have hs1:Sz q n:=hs1
 obtain⟨a1,a2,a3⟩:=Sz.iQ hs1 hn
 refine bJ hT l5 hm VO rfl (of_decide_eq_true (by kernel_rfl)) rfl 60 agZ (fun _=>?_) K pre
 simp only[aa.all,ax]
 exact⟨⟨by omega,by omega,a1,by omega,a3,by omega⟩,by omega,Qz hs1⟩
def OA:Spec:=bE fun l=>match l with
 |[.rat q n]=>some (aH (.rat q n) [n<2^44])
 |_=>none
theorem ae5:∀K args pre r,OA K args pre=some r→aA P zB K args pre r:=by
 refine bV fun K args r hk hs _=>?_
 split at hs
 ·simp only[Option.some.injEq]at hs
  subst hs
  exact fun need=>Tl need K [] trivial
 ·simp at hs
theorem Vh {n:Int} (h1:-2^63≤n) (h2:n<2^63) (K:Nat) (pre:aC):aA P y6 K [.int .i64 n] pre (aH (.mag n.natAbs) []):=by
 refine bJ hT l5 hm afk rfl (of_decide_eq_true (by kernel_rfl)) rfl 60 afL (fun _=>?_) K pre
 simp only[aa.all,ax,beq_iff_eq,beq_eq_false_iff_ne,ne_eq]
 refine⟨fun hb=>⟨by omega,cY ?_⟩,fun hb=>?_⟩
 ·subst hb;rfl
 ·have e:IntKind.i64.wrap (0-n)=-n:=by rw[wrap_i64 (by omega) (by omega)];omega
  rw[e]
  have e2 : IntKind.u64.wrap (if n < -n then -n else n) = ((n.natAbs : Nat) : Int) := by
   rw[bN (by split<;>omega) (by split<;>omega)]
   split<;>omega
  rw[e2]
  refine⟨⟨by omega,by omega⟩,cY (by rw[Int.toNat_natCast])⟩
def LM:Spec:=bE fun l=>match l with
 |[.int .i64 n]=>some (aH (.mag n.natAbs) [-2^63≤n,n<2^63])
 |_=>none
theorem S5:∀K args pre r,LM K args pre=some r→aA P y6 K args pre r:=by
 refine bV fun K args r hk hs _=>?_
 split at hs
 ·simp only[Option.some.injEq]at hs
  subst hs
  exact fun need=>Vh need.1 need.2 K [] trivial
 ·simp at hs
def FO:Spec:=bE fun l=>match l with
 |[.bool b,x,y]=>match ia x,ia y with
  |some N,some D=>some (aH (.rat (sQ b N D) (cz (sQ b N D))) [nl N<2^40,nl D<2^40])
  |_,_=>none
 |_=>none
theorem PL:∀K args pre r,FO K args pre=some r→aA P su K args pre r:=by
 refine bV fun K args r hk hs _=>?_
 split at hs
 ·split at hs
  ·rename_i N D h1 h2
   simp only[Option.some.injEq]at hs
   subst hs
   exact fun need=>fO (RS need.1 need.2 K []) hk ⟨.refl _,j4 h1,j4 h2,trivial⟩ [] trivial
  ·simp at hs
 ·simp at hs
end Go.Am.B
