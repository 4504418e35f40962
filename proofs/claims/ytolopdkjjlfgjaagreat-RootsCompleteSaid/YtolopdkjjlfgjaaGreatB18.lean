/- rational.den, parts, Same, Sign, copied, size: their contracts. -/
import Derived.Test.YtolopdkjjlfgjaaGreatB17
set_option linter.unusedVariables false
namespace Go.Am.B
open Go Go.Am.N AV
theorem TM {q:Rat} {n:Nat} (K:Nat) (pre:aD):aQ P 120 K [.rat q n] pre (aM (.mag q.den) []):=by
 refine cA hT ng hm X1 rfl bp rfl 60 UR (fun _=>?_) K pre
 simp only[af.all,aA,beq_iff_eq,beq_eq_false_iff_ne,ne_eq]
 refine⟨aa,fun hb=>eO ?_,fun hb=>⟨aa,eO ?_⟩⟩
 ·have h0:=q.den_nz
  have:(if q.den=1 then 0 else q.den)=0:=kO.1 aa
  split at this
  ·rename_i h;rw[h]
  ·omega
 ·split
  ·rename_i h;rw[if_pos h]at hb;exact absurd (by decide) hb
  ·rfl
def GP:Spec:=b7 fun l=>match l with
 |[.rat q _]=>some (aM (.mag q.den) [])
 |_=>none
theorem YG:bA P GP 120:=by
 refine cP fun K args r hk hs _=>?_
 split at hs
 ·simp only[ax]at hs
  subst hs
  exact TM K []
 ·simp at hs
def fc (q:Rat):Bool:=decide (q.num.natAbs<4294967296)&&decide (q.den<4294967296)
abbrev vw (q:Rat):AV:=.tuple [.int .u64 (if fc q then q.num.natAbs else 0:Nat),.int .u64 (if fc q then q.den else 0:Nat),.bool (fc q)]
theorem uL {N:Nat}:nl N<=1↔N<4294967296:=ec
theorem YY {q:Rat} {n:Nat} (K:Nat) (pre:aD):aQ P 116 K [.rat q n] pre (aM (vw q) []):=by
 refine cA hT ng hm aei rfl bp rfl 60 adM (fun _=>?_) K pre
 simp only[af.all,aA,beq_iff_eq,beq_eq_false_iff_ne,ne_eq,bK,bO,Int.toNat_zero]
 have hd:=q.den_nz
 have no:¬(q.num.natAbs<4294967296/\q.den<4294967296)->gG [.int .u64 0,.int .u64 0,.bool false] (vw q):=by
  intro h
  have:fc q=false:=by
   unfold fc
   by_cases h1:q.num.natAbs<4294967296
   ·simp[h1];omega
   ·simp[h1]
  unfold vw
  rw[this]
  exact⟨.refl _,.refl _,.refl _,trivial⟩
 have yes:∀{x:Int} {v:Bool},q.num.natAbs<4294967296/\q.den<4294967296->x=(q.den:Nat)->v=true->gG [.int .u64 (q.num.natAbs:Nat),.int .u64 x,.bool v] (vw q):=by
  intro x v h hx hv
  have:fc q=true:=by unfold fc;simp[h]
  unfold vw
  rw[this]
  exact⟨.refl _,bV hx,kI hv,trivial⟩
 have hden:∀{m:Nat},nl (if q.den=1 then 0 else q.den)<=m↔(q.den=1\/nl q.den<=m):=by
  intro m
  by_cases h:q.den=1
  ·simp[h];simp[nl]
  ·simp[h]
 refine⟨fun hb=>⟨⟨aa,hb⟩,fun _=>no ?_,fun h=>by simp at h⟩,fun hb=>⟨⟨aa,hb,aa⟩,fun hc=>no ?_,fun hc=>⟨aa,fun h1=>⟨⟨aa,aa,aa⟩,⟨aa,aa⟩,?_⟩,fun h1=>⟨⟨aa,aa⟩,yes ?_ ?_ rfl⟩⟩⟩⟩
 ·have:=uL (N:=q.num.natAbs);omega
 ·have h2:=of_decide_eq_true (jg hc)
  have h3:=hden (m:=1)
  have h4:=uL (N:=q.den)
  omega
 ·have h2:=of_decide_eq_false (jg hc)
  have hn1:q.den≠1:=fun h=>by rw[if_pos h]at h1;simp[nl]at h1
  rw[if_neg hn1]at h1 h2 ⊢
  have h4:=(uL (N:=q.den)).1 aa
  have h5:=(uL (N:=q.num.natAbs)).1 aa
  have hl:aB q.den 0=q.den:=by
   have:=gO (N:=q.den)
   rw[show nl q.den=1 by omega,val,val]at this
   simpa using this
  rw[hl,cy aa aa]
  exact yes ⟨h5,h4⟩ rfl (by simp;omega)
 ·have h2:=of_decide_eq_false (jg hc)
  have h3:=hden (m:=1)
  have h3':=hden (m:=0)
  have h4:=uL (N:=q.den)
  have h5:=uL (N:=q.num.natAbs)
  have h6:=gZ (N:=q.den)
  omega
 ·have h2:=of_decide_eq_false (jg hc)
  have h3:=hden (m:=0)
  have h6:=gZ (N:=q.den)
  omega
def N3:Spec:=b7 fun l=>match l with
 |[.rat q _]=>some (aM (vw q) [])
 |_=>none
theorem P0:bA P N3 116:=by
 refine cP fun K args r hk hs _=>?_
 split at hs
 ·simp only[ax]at hs
  subst hs
  exact YY K []
 ·simp at hs
theorem pK {q r:Rat}:q=r↔(decide (q<0)=decide (r<0))/\q.num.natAbs=r.num.natAbs/\(if q.den=1 then 0 else q.den)=(if r.den=1 then 0 else r.den):=by
 constructor
 ·intro h;subst h;exact⟨rfl,rfl,rfl⟩
 ·rintro⟨h1,h2,h3⟩
  have hd:q.den=r.den:=by
   have:=q.den_nz
   have:=r.den_nz
   split at h3<;>split at h3<;>omega
  rw[<-lG q,<-lG r,h1,h2,hd]
theorem Rd {q r:Rat} {n m:Nat} (hn:n<2^44) (hm':m<2^44) (K:Nat) (pre:aD):aQ P 110 K [.rat q n,.rat r m] pre (aM (.bool (decide (q=r))) []):=by
 refine lM fun⟨hs1,hs2,_⟩=>?_
 obtain⟨a1,a2,a3⟩:=Sz.kY hs1 hn
 obtain⟨b1,b2,b3⟩:=Sz.kY hs2 hm'
 refine cA hT ng hm abY rfl bp rfl 60 WS (fun _=>?_) K pre
 simp only[af.all,aA]
 refine⟨fun hb=>⟨fun hc=>⟨⟨aa,aa,hb,aa,aa,a1,b1,hc,aa,aa,a3,b3⟩,kI ?_⟩,fun hc=>⟨⟨aa,aa,hb,aa,aa,a1,b1,hc⟩,kI ?_⟩⟩,fun hb=>⟨fun h=>by simp at h,fun _=>⟨⟨aa,aa,hb,trivial⟩,kI ?_⟩⟩⟩
 ·have h1:=eq_of_beq hb
  have h2:=of_decide_eq_true (jW hc)
  rw[cond_true]
  exact decide_eq_decide.2 ⟨fun h=>pK.2 ⟨h1,h2,h⟩,fun h=>(pK.1 h).2.2⟩
 ·have h2:=of_decide_eq_false (jW hc)
  exact(decide_eq_false fun h=>h2 (pK.1 h).2.1).symm
 ·refine(decide_eq_false fun h=>?_).symm
  rw[(pK.1 h).1]at hb
  simp at hb
theorem oU {q:Rat}:q.num.natAbs=0↔q=0:=by rw[Int.natAbs_eq_zero,Rat.num_eq_zero]
theorem KV {q:Rat} (h:q≠0) (h2:¬q<0):0<q:=by
 rw[Rat.lt_iff]
 have h3:¬q.num<0:=fun h=>h2 (jw.2 h)
 have h4:q.num≠0:=fun h5=>h (Rat.num_eq_zero.1 h5)
 simp;omega
theorem Gh {q:Rat} {n:Nat} (hn:n<2^44) (K:Nat) (pre:aD):aQ P 65 K [.rat q n] pre (aM (.int .i64 (bC q)) []):=by
 refine lM fun⟨hs1,_⟩=>?_
 obtain⟨a1,a2,a3⟩:=Sz.kY hs1 hn
 refine cA hT ng hm XE rfl bp rfl 60 aap (fun _=>?_) K pre
 simp only[af.all,aA,beq_iff_eq,beq_eq_false_iff_ne,ne_eq]
 refine⟨⟨aa,a1⟩,fun hb=>bV ?_,fun hb=>⟨aa,fun hc=>bV ?_,fun hc=>bV ?_⟩⟩
 ·have h0:q=0:=oU.1 (FK.1 aa)
  subst h0
  rfl
 ·have:=of_decide_eq_true hc
  unfold bC;rw[if_pos this]
 ·have h1:=of_decide_eq_false hc
  have h0:q≠0:=fun h=>hb (by rw[h];rfl)
  unfold bC;rw[if_neg h1,if_pos (KV h0 h1)]
def Ma:Spec:=b7 fun l=>match l with
 |[.rat q n]=>some (aM (.int .i64 (bC q)) [n<2^44])
 |_=>none
theorem ac8:bA P Ma 65:=by
 refine cP fun K args r hk hs _=>?_
 split at hs
 ·simp only[ax]at hs
  subst hs
  exact fun need=>Gh need K [] trivial
 ·simp at hs
theorem LO {q:Rat} {n:Nat} (h:Sz q n):bG (.agg [.bool (decide (q<0)),.mag q.num.natAbs,.mag (if q.den=1 then 0 else q.den)]) (.rat q n):=rB h rfl rfl rfl
theorem UN {q:Rat} {n:Nat} (hn:n<2^44) (K:Nat) (pre:aD):aQ P 166 K [.rat q n] pre (aM (.rat q n) []):=by
 refine lM fun⟨hs1,_⟩=>?_
 have hs1:Sz q n:=hs1
 obtain⟨a1,a2,a3⟩:=Sz.kY hs1 hn
 refine cA hT ng hm Tp rfl bp rfl 60 YF (fun _=>?_) K pre
 simp only[af.all,aA]
 exact⟨⟨aa,aa,a1,aa,a3,aa⟩,aa,LO hs1⟩
def LI:Spec:=b7 fun l=>match l with
 |[.rat q n]=>some (aM (.rat q n) [n<2^44])
 |_=>none
theorem aa7:bA P LI 166:=by
 refine cP fun K args r hk hs _=>?_
 split at hs
 ·simp only[ax]at hs
  subst hs
  exact fun need=>UN need K [] trivial
 ·simp at hs
theorem Tg {n:Int} (h1:-2^63<=n) (h2:n<2^63) (K:Nat) (pre:aD):aQ P 134 K [.int .i64 n] pre (aM (.mag n.natAbs) []):=by
 refine cA hT ng hm Ys rfl bp rfl 60 Z4 (fun _=>?_) K pre
 simp only[af.all,aA,beq_iff_eq,beq_eq_false_iff_ne,ne_eq]
 refine⟨fun hb=>⟨aa,eO ?_⟩,fun hb=>?_⟩
 ·subst hb;rfl
 ·have e:IntKind.i64.wrap (0-n)=-n:=by rw[wrap_i64 aa aa];omega
  rw[e]
  have e2 : IntKind.u64.wrap (if n < -n then -n else n) = ((n.natAbs : Nat) : Int) := by
   rw[cy (by split<;>omega) (by split<;>omega)]
   split<;>omega
  rw[e2]
  refine⟨⟨aa,aa⟩,eO (by rw[bE])⟩
def Og:Spec:=b7 fun l=>match l with
 |[.int .i64 n]=>some (aM (.mag n.natAbs) [-2^63<=n,n<2^63])
 |_=>none
theorem OZ:bA P Og 134:=by
 refine cP fun K args r hk hs _=>?_
 split at hs
 ·simp only[ax]at hs
  subst hs
  exact fun need=>Tg need.1 need.2 K [] trivial
 ·simp at hs
def C4:Spec:=b7 fun l=>match l with
 |[.bool b,x,y]=>match jD x,jD y with
  |some N,some D=>some (aM (.rat (sQ b N D) (dK (sQ b N D))) [nl N<2^40,nl D<2^40])
  |_,_=>none
 |_=>none
theorem N4:bA P C4 133:=by
 refine cP fun K args r hk hs _=>?_
 split at hs
 ·split at hs
  ·rename_i N D h1 h2
   simp only[ax]at hs
   subst hs
   exact fun need=>gY (OU need.1 need.2 K []) hk ⟨.refl _,mB h1,mB h2,trivial⟩ [] trivial
  ·simp at hs
 ·simp at hs
end Go.Am.B
