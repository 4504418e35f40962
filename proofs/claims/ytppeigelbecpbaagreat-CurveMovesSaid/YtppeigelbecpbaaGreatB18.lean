/- rational.den, parts, Same, Sign, copied, size: their contracts. -/
import Derived.Test.YtppeigelbecpbaaGreatB17
set_option linter.unusedVariables false
namespace Go.Am.B
open Go Go.Am.N AV
theorem ah7 {q:Rat} {n:Nat} (K:Nat) (pre:aC):aA P su K [.rat q n] pre (aI (.mag q.den) []):=by
 refine bF hT lX hm Yd rfl (of_decide_eq_true (by kernel_rfl)) rfl 60 adb (fun _=>?_) K pre
 simp only[aa.all,ax,beq_iff_eq,beq_eq_false_iff_ne,ne_eq]
 refine⟨by omega,fun hb=>cT ?_,fun hb=>⟨by omega,cT ?_⟩⟩
 ·have h0:=q.den_nz
  have:(if q.den=1 then 0 else q.den)=0:=iy.1 (by omega)
  split at this
  ·rename_i h;rw[h]
  ·omega
 ·split
  ·rename_i h;rw[if_pos h]at hb;exact absurd (by decide) hb
  ·rfl
def Gm:Spec:=bB fun l=>match l with
 |[.rat q _]=>some (aI (.mag q.den) [])
 |_=>none
theorem Jn:∀K args pre r,Gm K args pre=some r→aA P su K args pre r:=by
 refine bS fun K args r hk hs _=>?_
 split at hs
 ·simp only[Option.some.injEq]at hs
  subst hs
  exact ah7 K []
 ·simp at hs
def dn (q:Rat):Bool:=decide (q.num.natAbs<4294967296)&&decide (q.den<4294967296)
abbrev tf (q:Rat):AV:=.tuple [.int .u64 (if dn q then q.num.natAbs else 0:Nat),.int .u64 (if dn q then q.den else 0:Nat),.bool (dn q)]
theorem sC {N:Nat}:nl N≤1↔N<4294967296:=cL
theorem aaA {q:Rat} {n:Nat} (K:Nat) (pre:aC):aA P xm K [.rat q n] pre (aI (tf q) []):=by
 refine bF hT lX hm aej rfl (of_decide_eq_true (by kernel_rfl)) rfl 60 S3 (fun _=>?_) K pre
 simp only[aa.all,ax,beq_iff_eq,beq_eq_false_iff_ne,ne_eq,decide_eq_true_eq,decide_eq_false_iff_not,Int.toNat_zero]
 have hd:=q.den_nz
 have no:¬(q.num.natAbs<4294967296∧q.den<4294967296)→dx [.int .u64 0,.int .u64 0,.bool false] (tf q):=by
  intro h
  have:dn q=false:=by
   unfold dn
   by_cases h1:q.num.natAbs<4294967296
   ·simp[h1];omega
   ·simp[h1]
  unfold tf
  rw[this]
  exact⟨.refl _,.refl _,.refl _,trivial⟩
 have yes:∀{x:Int} {v:Bool},q.num.natAbs<4294967296∧q.den<4294967296→x=(q.den:Nat)→v=true→dx [.int .u64 (q.num.natAbs:Nat),.int .u64 x,.bool v] (tf q):=by
  intro x v h hx hv
  have:dn q=true:=by unfold dn;simp[h]
  unfold tf
  rw[this]
  exact⟨.refl _,bt hx,eV hv,trivial⟩
 have hden:∀{m:Nat},nl (if q.den=1 then 0 else q.den)≤m↔(q.den=1∨nl q.den≤m):=by
  intro m
  by_cases h:q.den=1
  ·simp[h];simp[nl]
  ·simp[h]
 refine⟨fun hb=>⟨⟨by omega,hb⟩,fun _=>no ?_,fun h=>by simp at h⟩,fun hb=>⟨⟨by omega,hb,by omega⟩,fun hc=>no ?_,fun hc=>⟨by omega,fun h1=>⟨⟨by omega,by omega,by omega⟩,⟨by omega,by omega⟩,?_⟩,fun h1=>⟨⟨by omega,by omega⟩,yes ?_ ?_ rfl⟩⟩⟩⟩
 ·have:=sC (N:=q.num.natAbs);omega
 ·have h2:=of_decide_eq_true (gq hc)
  have h3:=hden (m:=1)
  have h4:=sC (N:=q.den)
  omega
 ·have h2:=of_decide_eq_false (gq hc)
  have hn1:q.den≠1:=fun h=>by rw[if_pos h]at h1;simp[nl]at h1
  rw[if_neg hn1]at h1 h2 ⊢
  have h4:=(sC (N:=q.den)).1 (by omega)
  have h5:=(sC (N:=q.num.natAbs)).1 (by omega)
  have hl:az q.den 0=q.den:=by
   have:=fk (N:=q.den)
   rw[show nl q.den=1 by omega,val,val]at this
   simpa using this
  rw[hl,bK (by omega) (by omega)]
  exact yes ⟨h5,h4⟩ rfl (by simp;omega)
 ·have h2:=of_decide_eq_false (gq hc)
  have h3:=hden (m:=1)
  have h3':=hden (m:=0)
  have h4:=sC (N:=q.den)
  have h5:=sC (N:=q.num.natAbs)
  have h6:=fo (N:=q.den)
  omega
 ·have h2:=of_decide_eq_false (gq hc)
  have h3:=hden (m:=0)
  have h6:=fo (N:=q.den)
  omega
def OI:Spec:=bB fun l=>match l with
 |[.rat q _]=>some (aI (tf q) [])
 |_=>none
theorem SV:∀K args pre r,OI K args pre=some r→aA P xm K args pre r:=by
 refine bS fun K args r hk hs _=>?_
 split at hs
 ·simp only[Option.some.injEq]at hs
  subst hs
  exact aaA K []
 ·simp at hs
theorem nT {q r:Rat}:q=r↔(decide (q<0)=decide (r<0))∧q.num.natAbs=r.num.natAbs∧(if q.den=1 then 0 else q.den)=(if r.den=1 then 0 else r.den):=by
 constructor
 ·intro h;subst h;exact⟨rfl,rfl,rfl⟩
 ·rintro⟨h1,h2,h3⟩
  have hd:q.den=r.den:=by
   have:=q.den_nz
   have:=r.den_nz
   split at h3<;>split at h3<;>omega
  rw[←jC q,←jC r,h1,h2,hd]
theorem Jm {q r:Rat} {n m:Nat} (hn:n<2^44) (hm':m<2^44) (K:Nat) (pre:aC):aA P fT K [.rat q n,.rat r m] pre (aI (.bool (decide (q=r))) []):=by
 refine iA fun⟨hs1,hs2,_⟩=>?_
 obtain⟨a1,a2,a3⟩:=Sz.iE hs1 hn
 obtain⟨b1,b2,b3⟩:=Sz.iE hs2 hm'
 refine bF hT lX hm Z7 rfl (of_decide_eq_true (by kernel_rfl)) rfl 60 T1 (fun _=>?_) K pre
 simp only[aa.all,ax]
 refine⟨fun hb=>⟨fun hc=>⟨⟨by omega,by omega,hb,by omega,by omega,a1,b1,hc,by omega,by omega,a3,b3⟩,eV ?_⟩,fun hc=>⟨⟨by omega,by omega,hb,by omega,by omega,a1,b1,hc⟩,eV ?_⟩⟩,fun hb=>⟨fun h=>by simp at h,fun _=>⟨⟨by omega,by omega,hb,trivial⟩,eV ?_⟩⟩⟩
 ·have h1:=eq_of_beq hb
  have h2:=of_decide_eq_true (iu hc)
  rw[cond_true]
  exact decide_eq_decide.2 ⟨fun h=>nT.2 ⟨h1,h2,h⟩,fun h=>(nT.1 h).2.2⟩
 ·have h2:=of_decide_eq_false (iu hc)
  exact(decide_eq_false fun h=>h2 (nT.1 h).2.1).symm
 ·refine(decide_eq_false fun h=>?_).symm
  rw[(nT.1 h).1]at hb
  simp at hb
theorem lM {q:Rat}:q.num.natAbs=0↔q=0:=by rw[Int.natAbs_eq_zero,Rat.num_eq_zero]
theorem Mm {q:Rat} (h:q≠0) (h2:¬q<0):0<q:=by
 rw[Rat.lt_iff]
 have h3:¬q.num<0:=fun h=>h2 (g9.2 h)
 have h4:q.num≠0:=fun h5=>h (Rat.num_eq_zero.1 h5)
 simp;omega
theorem HK {q:Rat} {n:Nat} (hn:n<2^44) (K:Nat) (pre:aC):aA P qb K [.rat q n] pre (aI (.int .i64 (dS q)) []):=by
 refine iA fun⟨hs1,_⟩=>?_
 obtain⟨a1,a2,a3⟩:=Sz.iE hs1 hn
 refine bF hT lX hm US rfl (of_decide_eq_true (by kernel_rfl)) rfl 60 aa0 (fun _=>?_) K pre
 simp only[aa.all,ax,beq_iff_eq,beq_eq_false_iff_ne,ne_eq]
 refine⟨⟨by omega,a1⟩,fun hb=>bt ?_,fun hb=>⟨by omega,fun hc=>bt ?_,fun hc=>bt ?_⟩⟩
 ·have h0:q=0:=lM.1 (HS.1 (by omega))
  subst h0
  rfl
 ·have:=of_decide_eq_true hc
  unfold dS;rw[if_pos this]
 ·have h1:=of_decide_eq_false hc
  have h0:q≠0:=fun h=>hb (by rw[h];rfl)
  unfold dS;rw[if_neg h1,if_pos (Mm h0 h1)]
def NM:Spec:=bB fun l=>match l with
 |[.rat q n]=>some (aI (.int .i64 (dS q)) [n<2^44])
 |_=>none
theorem Xf:∀K args pre r,NM K args pre=some r→aA P qb K args pre r:=by
 refine bS fun K args r hk hs _=>?_
 split at hs
 ·simp only[Option.some.injEq]at hs
  subst hs
  exact fun need=>HK need K [] trivial
 ·simp at hs
theorem Im {q:Rat} {n:Nat} (h:Sz q n):bA (.agg [.bool (decide (q<0)),.mag q.num.natAbs,.mag (if q.den=1 then 0 else q.den)]) (.rat q n):=pL h rfl rfl rfl
theorem abY {q:Rat} {n:Nat} (hn:n<2^44) (K:Nat) (pre:aC):aA P xI K [.rat q n] pre (aI (.rat q n) []):=by
 refine iA fun⟨hs1,_⟩=>?_
 have hs1:Sz q n:=hs1
 obtain⟨a1,a2,a3⟩:=Sz.iE hs1 hn
 refine bF hT lX hm ZM rfl (of_decide_eq_true (by kernel_rfl)) rfl 60 Qd (fun _=>?_) K pre
 simp only[aa.all,ax]
 exact⟨⟨by omega,by omega,a1,by omega,a3,by omega⟩,by omega,Im hs1⟩
def Nf:Spec:=bB fun l=>match l with
 |[.rat q n]=>some (aI (.rat q n) [n<2^44])
 |_=>none
theorem RO:∀K args pre r,Nf K args pre=some r→aA P xI K args pre r:=by
 refine bS fun K args r hk hs _=>?_
 split at hs
 ·simp only[Option.some.injEq]at hs
  subst hs
  exact fun need=>abY need K [] trivial
 ·simp at hs
theorem VV {n:Int} (h1:-2^63≤n) (h2:n<2^63) (K:Nat) (pre:aC):aA P z9 K [.int .i64 n] pre (aI (.mag n.natAbs) []):=by
 refine bF hT lX hm aaw rfl (of_decide_eq_true (by kernel_rfl)) rfl 60 ads (fun _=>?_) K pre
 simp only[aa.all,ax,beq_iff_eq,beq_eq_false_iff_ne,ne_eq]
 refine⟨fun hb=>⟨by omega,cT ?_⟩,fun hb=>?_⟩
 ·subst hb;rfl
 ·have e:IntKind.i64.wrap (0-n)=-n:=by rw[wrap_i64 (by omega) (by omega)];omega
  rw[e]
  have e2 : IntKind.u64.wrap (if n < -n then -n else n) = ((n.natAbs : Nat) : Int) := by
   rw[bK (by split<;>omega) (by split<;>omega)]
   split<;>omega
  rw[e2]
  refine⟨⟨by omega,by omega⟩,cT (by rw[Int.toNat_natCast])⟩
def MX:Spec:=bB fun l=>match l with
 |[.int .i64 n]=>some (aI (.mag n.natAbs) [-2^63≤n,n<2^63])
 |_=>none
theorem UW:∀K args pre r,MX K args pre=some r→aA P z9 K args pre r:=by
 refine bS fun K args r hk hs _=>?_
 split at hs
 ·simp only[Option.some.injEq]at hs
  subst hs
  exact fun need=>VV need.1 need.2 K [] trivial
 ·simp at hs
def EE:Spec:=bB fun l=>match l with
 |[.bool b,x,y]=>match gP x,gP y with
  |some N,some D=>some (aI (.rat (sQ b N D) (cq (sQ b N D))) [nl N<2^40,nl D<2^40])
  |_,_=>none
 |_=>none
theorem Pc:∀K args pre r,EE K args pre=some r→aA P qZ K args pre r:=by
 refine bS fun K args r hk hs _=>?_
 split at hs
 ·split at hs
  ·rename_i N D h1 h2
   simp only[Option.some.injEq]at hs
   subst hs
   exact fun need=>fN (ai9 need.1 need.2 K []) hk ⟨.refl _,jW h1,jW h2,trivial⟩ [] trivial
  ·simp at hs
 ·simp at hs
end Go.Am.B
