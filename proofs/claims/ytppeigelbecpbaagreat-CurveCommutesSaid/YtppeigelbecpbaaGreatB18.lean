/- rational.den, parts, Same, Sign, copied, size: their contracts. -/
import Derived.Test.YtppeigelbecpbaaGreatB17
set_option linter.unusedVariables false
namespace Go.Am.B
open Go Go.Am.N AV
theorem afb {q:Rat} {n:Nat} (K:Nat) (pre:aC):aB P uV K [.rat q n] pre (aK (.mag q.den) []):=by
 refine bJ hT mG hm aeJ rfl (of_decide_eq_true (by kernel_rfl)) rfl 60 aiy (fun _=>?_) K pre
 simp only[aa.all,ax,beq_iff_eq,beq_eq_false_iff_ne,ne_eq]
 refine⟨by omega,fun hb=>dc ?_,fun hb=>⟨by omega,dc ?_⟩⟩
 ·have h0:=q.den_nz
  have:(if q.den=1 then 0 else q.den)=0:=iJ.1 (by omega)
  split at this
  ·rename_i h;rw[h]
  ·omega
 ·split
  ·rename_i h;rw[if_pos h]at hb;exact absurd (by decide) hb
  ·rfl
def F9:Spec:=bC fun l=>match l with
 |[.rat q _]=>some (aK (.mag q.den) [])
 |_=>none
theorem Nh:∀K args pre r,F9 K args pre=some r→aB P uV K args pre r:=by
 refine bV fun K args r hk hs _=>?_
 split at hs
 ·simp only[Option.some.injEq]at hs
  subst hs
  exact afb K []
 ·simp at hs
def dN (q:Rat):Bool:=decide (q.num.natAbs<4294967296)&&decide (q.den<4294967296)
abbrev sO (q:Rat):AV:=.tuple [.int .u64 (if dN q then q.num.natAbs else 0:Nat),.int .u64 (if dN q then q.den else 0:Nat),.bool (dN q)]
theorem th {N:Nat}:nl N≤1↔N<4294967296:=cT
theorem acF {q:Rat} {n:Nat} (K:Nat) (pre:aC):aB P Bc K [.rat q n] pre (aK (sO q) []):=by
 refine bJ hT mG hm acE rfl (of_decide_eq_true (by kernel_rfl)) rfl 60 ajw (fun _=>?_) K pre
 simp only[aa.all,ax,beq_iff_eq,beq_eq_false_iff_ne,ne_eq,decide_eq_true_eq,decide_eq_false_iff_not,Int.toNat_zero]
 have hd:=q.den_nz
 have no:¬(q.num.natAbs<4294967296∧q.den<4294967296)→dX [.int .u64 0,.int .u64 0,.bool false] (sO q):=by
  intro h
  have:dN q=false:=by
   unfold dN
   by_cases h1:q.num.natAbs<4294967296
   ·simp[h1];omega
   ·simp[h1]
  unfold sO
  rw[this]
  exact⟨.refl _,.refl _,.refl _,trivial⟩
 have yes:∀{x:Int} {v:Bool},q.num.natAbs<4294967296∧q.den<4294967296→x=(q.den:Nat)→v=true→dX [.int .u64 (q.num.natAbs:Nat),.int .u64 x,.bool v] (sO q):=by
  intro x v h hx hv
  have:dN q=true:=by unfold dN;simp[h]
  unfold sO
  rw[this]
  exact⟨.refl _,bw hx,fV hv,trivial⟩
 have hden:∀{m:Nat},nl (if q.den=1 then 0 else q.den)≤m↔(q.den=1∨nl q.den≤m):=by
  intro m
  by_cases h:q.den=1
  ·simp[h];simp[nl]
  ·simp[h]
 refine⟨fun hb=>⟨⟨by omega,hb⟩,fun _=>no ?_,fun h=>by simp at h⟩,fun hb=>⟨⟨by omega,hb,by omega⟩,fun hc=>no ?_,fun hc=>⟨by omega,fun h1=>⟨⟨by omega,by omega,by omega⟩,⟨by omega,by omega⟩,?_⟩,fun h1=>⟨⟨by omega,by omega⟩,yes ?_ ?_ rfl⟩⟩⟩⟩
 ·have:=th (N:=q.num.natAbs);omega
 ·have h2:=of_decide_eq_true (gL hc)
  have h3:=hden (m:=1)
  have h4:=th (N:=q.den)
  omega
 ·have h2:=of_decide_eq_false (gL hc)
  have hn1:q.den≠1:=fun h=>by rw[if_pos h]at h1;simp[nl]at h1
  rw[if_neg hn1]at h1 h2 ⊢
  have h4:=(th (N:=q.den)).1 (by omega)
  have h5:=(th (N:=q.num.natAbs)).1 (by omega)
  have hl:az q.den 0=q.den:=by
   have:=fJ (N:=q.den)
   rw[show nl q.den=1 by omega,val,val]at this
   simpa using this
  rw[hl,bN (by omega) (by omega)]
  exact yes ⟨h5,h4⟩ rfl (by simp;omega)
 ·have h2:=of_decide_eq_false (gL hc)
  have h3:=hden (m:=1)
  have h3':=hden (m:=0)
  have h4:=th (N:=q.den)
  have h5:=th (N:=q.num.natAbs)
  have h6:=fY (N:=q.den)
  omega
 ·have h2:=of_decide_eq_false (gL hc)
  have h3:=hden (m:=0)
  have h6:=fY (N:=q.den)
  omega
def Qx:Spec:=bC fun l=>match l with
 |[.rat q _]=>some (aK (sO q) [])
 |_=>none
theorem W7:∀K args pre r,Qx K args pre=some r→aB P Bc K args pre r:=by
 refine bV fun K args r hk hs _=>?_
 split at hs
 ·simp only[Option.some.injEq]at hs
  subst hs
  exact acF K []
 ·simp at hs
theorem pH {q r:Rat}:q=r↔(decide (q<0)=decide (r<0))∧q.num.natAbs=r.num.natAbs∧(if q.den=1 then 0 else q.den)=(if r.den=1 then 0 else r.den):=by
 constructor
 ·intro h;subst h;exact⟨rfl,rfl,rfl⟩
 ·rintro⟨h1,h2,h3⟩
  have hd:q.den=r.den:=by
   have:=q.den_nz
   have:=r.den_nz
   split at h3<;>split at h3<;>omega
  rw[←ko q,←ko r,h1,h2,hd]
theorem LM {q r:Rat} {n m:Nat} (hn:n<2^44) (hm':m<2^44) (K:Nat) (pre:aC):aB P fu K [.rat q n,.rat r m] pre (aK (.bool (decide (q=r))) []):=by
 refine jj fun⟨hs1,hs2,_⟩=>?_
 obtain⟨a1,a2,a3⟩:=Sz.iK hs1 hn
 obtain⟨b1,b2,b3⟩:=Sz.iK hs2 hm'
 refine bJ hT mG hm Wo rfl (of_decide_eq_true (by kernel_rfl)) rfl 60 XE (fun _=>?_) K pre
 simp only[aa.all,ax]
 refine⟨fun hb=>⟨fun hc=>⟨⟨by omega,by omega,hb,by omega,by omega,a1,b1,hc,by omega,by omega,a3,b3⟩,fV ?_⟩,fun hc=>⟨⟨by omega,by omega,hb,by omega,by omega,a1,b1,hc⟩,fV ?_⟩⟩,fun hb=>⟨fun h=>by simp at h,fun _=>⟨⟨by omega,by omega,hb,trivial⟩,fV ?_⟩⟩⟩
 ·have h1:=eq_of_beq hb
  have h2:=of_decide_eq_true (iL hc)
  rw[cond_true]
  exact decide_eq_decide.2 ⟨fun h=>pH.2 ⟨h1,h2,h⟩,fun h=>(pH.1 h).2.2⟩
 ·have h2:=of_decide_eq_false (iL hc)
  exact(decide_eq_false fun h=>h2 (pH.1 h).2.1).symm
 ·refine(decide_eq_false fun h=>?_).symm
  rw[(pH.1 h).1]at hb
  simp at hb
theorem pV {q:Rat}:q.num.natAbs=0↔q=0:=by rw[Int.natAbs_eq_zero,Rat.num_eq_zero]
theorem Qr {q:Rat} (h:q≠0) (h2:¬q<0):0<q:=by
 rw[Rat.lt_iff]
 have h3:¬q.num<0:=fun h=>h2 (iB.2 h)
 have h4:q.num≠0:=fun h5=>h (Rat.num_eq_zero.1 h5)
 simp;omega
theorem F4 {q:Rat} {n:Nat} (hn:n<2^44) (K:Nat) (pre:aC):aB P qj K [.rat q n] pre (aK (.int .i64 (eG q)) []):=by
 refine jj fun⟨hs1,_⟩=>?_
 obtain⟨a1,a2,a3⟩:=Sz.iK hs1 hn
 refine bJ hT mG hm Vf rfl (of_decide_eq_true (by kernel_rfl)) rfl 60 aj5 (fun _=>?_) K pre
 simp only[aa.all,ax,beq_iff_eq,beq_eq_false_iff_ne,ne_eq]
 refine⟨⟨by omega,a1⟩,fun hb=>bw ?_,fun hb=>⟨by omega,fun hc=>bw ?_,fun hc=>bw ?_⟩⟩
 ·have h0:q=0:=pV.1 (Ey.1 (by omega))
  subst h0
  rfl
 ·have:=of_decide_eq_true hc
  unfold eG;rw[if_pos this]
 ·have h1:=of_decide_eq_false hc
  have h0:q≠0:=fun h=>hb (by rw[h];rfl)
  unfold eG;rw[if_neg h1,if_pos (Qr h0 h1)]
def Nt:Spec:=bC fun l=>match l with
 |[.rat q n]=>some (aK (.int .i64 (eG q)) [n<2^44])
 |_=>none
theorem aaq:∀K args pre r,Nt K args pre=some r→aB P qj K args pre r:=by
 refine bV fun K args r hk hs _=>?_
 split at hs
 ·simp only[Option.some.injEq]at hs
  subst hs
  exact fun need=>F4 need K [] trivial
 ·simp at hs
theorem Pe {q:Rat} {n:Nat} (h:Sz q n):bB (.agg [.bool (decide (q<0)),.mag q.num.natAbs,.mag (if q.den=1 then 0 else q.den)]) (.rat q n):=rO h rfl rfl rfl
theorem Tw {q:Rat} {n:Nat} (hn:n<2^44) (K:Nat) (pre:aC):aB P AZ K [.rat q n] pre (aK (.rat q n) []):=by
 refine jj fun⟨hs1,_⟩=>?_
 have hs1:Sz q n:=hs1
 obtain⟨a1,a2,a3⟩:=Sz.iK hs1 hn
 refine bJ hT mG hm W6 rfl (of_decide_eq_true (by kernel_rfl)) rfl 60 Xt (fun _=>?_) K pre
 simp only[aa.all,ax]
 exact⟨⟨by omega,by omega,a1,by omega,a3,by omega⟩,by omega,Pe hs1⟩
def PF:Spec:=bC fun l=>match l with
 |[.rat q n]=>some (aK (.rat q n) [n<2^44])
 |_=>none
theorem adD:∀K args pre r,PF K args pre=some r→aB P AZ K args pre r:=by
 refine bV fun K args r hk hs _=>?_
 split at hs
 ·simp only[Option.some.injEq]at hs
  subst hs
  exact fun need=>Tw need K [] trivial
 ·simp at hs
theorem T6 {n:Int} (h1:-2^63≤n) (h2:n<2^63) (K:Nat) (pre:aC):aB P yp K [.int .i64 n] pre (aK (.mag n.natAbs) []):=by
 refine bJ hT mG hm VN rfl (of_decide_eq_true (by kernel_rfl)) rfl 60 abP (fun _=>?_) K pre
 simp only[aa.all,ax,beq_iff_eq,beq_eq_false_iff_ne,ne_eq]
 refine⟨fun hb=>⟨by omega,dc ?_⟩,fun hb=>?_⟩
 ·subst hb;rfl
 ·have e:IntKind.i64.wrap (0-n)=-n:=by rw[wrap_i64 (by omega) (by omega)];omega
  rw[e]
  have e2 : IntKind.u64.wrap (if n < -n then -n else n) = ((n.natAbs : Nat) : Int) := by
   rw[bN (by split<;>omega) (by split<;>omega)]
   split<;>omega
  rw[e2]
  refine⟨⟨by omega,by omega⟩,dc (by rw[Int.toNat_natCast])⟩
def Ot:Spec:=bC fun l=>match l with
 |[.int .i64 n]=>some (aK (.mag n.natAbs) [-2^63≤n,n<2^63])
 |_=>none
theorem afQ:∀K args pre r,Ot K args pre=some r→aB P yp K args pre r:=by
 refine bV fun K args r hk hs _=>?_
 split at hs
 ·simp only[Option.some.injEq]at hs
  subst hs
  exact fun need=>T6 need.1 need.2 K [] trivial
 ·simp at hs
def HZ:Spec:=bC fun l=>match l with
 |[.bool b,x,y]=>match iD x,iD y with
  |some N,some D=>some (aK (.rat (sQ b N D) (ct (sQ b N D))) [nl N<2^40,nl D<2^40])
  |_,_=>none
 |_=>none
theorem LH:∀K args pre r,HZ K args pre=some r→aB P tD K args pre r:=by
 refine bV fun K args r hk hs _=>?_
 split at hs
 ·split at hs
  ·rename_i N D h1 h2
   simp only[Option.some.injEq]at hs
   subst hs
   exact fun need=>gb (abd need.1 need.2 K []) hk ⟨.refl _,kU h1,kU h2,trivial⟩ [] trivial
  ·simp at hs
 ·simp at hs
end Go.Am.B
