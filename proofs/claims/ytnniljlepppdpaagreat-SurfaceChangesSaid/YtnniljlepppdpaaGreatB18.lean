/- rational.den, parts, Same, Sign, copied, size: their contracts. -/
import Derived.Test.YtnniljlepppdpaaGreatB17
set_option linter.unusedVariables false
namespace Go.Am.B
open Go Go.Am.N AV
theorem WH {q:Rat} {n:Nat} (K:Nat) (pre:aE):aQ P Ah K [.rat q n] pre (aJ (.mag q.den) []):=by
 refine bZ hT nR hm acR rfl aX rfl 60 WE (fun _=>?_) K pre
 simp only[ah.all,aA,beq_iff_eq,beq_eq_false_iff_ne,ne_eq]
 refine⟨aa,fun hb=>dO ?_,fun hb=>⟨aa,dO ?_⟩⟩
 ·have h0:=q.den_nz
  have:(if q.den=1 then 0 else q.den)=0:=jX.1 aa
  split at this
  ·rename_i h;rw[h]
  ·omega
 ·split
  ·rename_i h;rw[if_pos h]at hb;exact absurd (by decide) hb
  ·rfl
def Kj:Spec:=bY fun l=>match l with
 |[.rat q _]=>some (aJ (.mag q.den) [])
 |_=>none
theorem U0:aW P Kj Ah:=by
 refine cJ fun K args r hk hs _=>?_
 split at hs
 ·simp only[az]at hs
  subst hs
  exact WH K []
 ·simp at hs
def eG (q:Rat):Bool:=decide (q.num.natAbs<4294967296)&&decide (q.den<4294967296)
abbrev wj (q:Rat):AV:=.tuple [.int .u64 (if eG q then q.num.natAbs else 0:Nat),.int .u64 (if eG q then q.den else 0:Nat),.bool (eG q)]
theorem wC {N:Nat}:nl N<=1↔N<4294967296:=dF
theorem Ye {q:Rat} {n:Nat} (K:Nat) (pre:aE):aQ P CG K [.rat q n] pre (aJ (wj q) []):=by
 refine bZ hT nR hm akG rfl aX rfl 60 anU (fun _=>?_) K pre
 simp only[ah.all,aA,beq_iff_eq,beq_eq_false_iff_ne,ne_eq,bq,bw,Int.toNat_zero]
 have hd:=q.den_nz
 have no:¬(q.num.natAbs<4294967296/\q.den<4294967296)->fj [.int .u64 0,.int .u64 0,.bool false] (wj q):=by
  intro h
  have:eG q=false:=by
   unfold eG
   by_cases h1:q.num.natAbs<4294967296
   ·simp[h1];omega
   ·simp[h1]
  unfold wj
  rw[this]
  exact⟨.refl _,.refl _,.refl _,trivial⟩
 have yes:∀{x:Int} {v:Bool},q.num.natAbs<4294967296/\q.den<4294967296->x=(q.den:Nat)->v=true->fj [.int .u64 (q.num.natAbs:Nat),.int .u64 x,.bool v] (wj q):=by
  intro x v h hx hv
  have:eG q=true:=by unfold eG;simp[h]
  unfold wj
  rw[this]
  exact⟨.refl _,bK hx,gl hv,trivial⟩
 have hden:∀{m:Nat},nl (if q.den=1 then 0 else q.den)<=m↔(q.den=1\/nl q.den<=m):=by
  intro m
  by_cases h:q.den=1
  ·simp[h];simp[nl]
  ·simp[h]
 refine⟨fun hb=>⟨⟨aa,hb⟩,fun _=>no ?_,fun h=>by simp at h⟩,fun hb=>⟨⟨aa,hb,aa⟩,fun hc=>no ?_,fun hc=>⟨aa,fun h1=>⟨⟨aa,aa,aa⟩,⟨aa,aa⟩,?_⟩,fun h1=>⟨⟨aa,aa⟩,yes ?_ ?_ rfl⟩⟩⟩⟩
 ·have:=wC (N:=q.num.natAbs);omega
 ·have h2:=of_decide_eq_true (iS hc)
  have h3:=hden (m:=1)
  have h4:=wC (N:=q.den)
  omega
 ·have h2:=of_decide_eq_false (iS hc)
  have hn1:q.den≠1:=fun h=>by rw[if_pos h]at h1;simp[nl]at h1
  rw[if_neg hn1]at h1 h2 ⊢
  have h4:=(wC (N:=q.den)).1 aa
  have h5:=(wC (N:=q.num.natAbs)).1 aa
  have hl:aF q.den 0=q.den:=by
   have:=gA (N:=q.den)
   rw[show nl q.den=1 by omega,val,val]at this
   simpa using this
  rw[hl,cu aa aa]
  exact yes ⟨h5,h4⟩ rfl (by simp;omega)
 ·have h2:=of_decide_eq_false (iS hc)
  have h3:=hden (m:=1)
  have h3':=hden (m:=0)
  have h4:=wC (N:=q.den)
  have h5:=wC (N:=q.num.natAbs)
  have h6:=gJ (N:=q.den)
  omega
 ·have h2:=of_decide_eq_false (iS hc)
  have h3:=hden (m:=0)
  have h6:=gJ (N:=q.den)
  omega
def UP:Spec:=bY fun l=>match l with
 |[.rat q _]=>some (aJ (wj q) [])
 |_=>none
theorem aik:aW P UP CG:=by
 refine cJ fun K args r hk hs _=>?_
 split at hs
 ·simp only[az]at hs
  subst hs
  exact Ye K []
 ·simp at hs
theorem qY {q r:Rat}:q=r↔(decide (q<0)=decide (r<0))/\q.num.natAbs=r.num.natAbs/\(if q.den=1 then 0 else q.den)=(if r.den=1 then 0 else r.den):=by
 constructor
 ·intro h;subst h;exact⟨rfl,rfl,rfl⟩
 ·rintro⟨h1,h2,h3⟩
  have hd:q.den=r.den:=by
   have:=q.den_nz
   have:=r.den_nz
   split at h3<;>split at h3<;>omega
  rw[<-lN q,<-lN r,h1,h2,hd]
theorem TL {q r:Rat} {n m:Nat} (hn:n<2^44) (hm':m<2^44) (K:Nat) (pre:aE):aQ P iC K [.rat q n,.rat r m] pre (aJ (.bool (decide (q=r))) []):=by
 refine jV fun⟨hs1,hs2,_⟩=>?_
 obtain⟨a1,a2,a3⟩:=Sz.jR hs1 hn
 obtain⟨b1,b2,b3⟩:=Sz.jR hs2 hm'
 refine bZ hT nR hm afr rfl aX rfl 60 ac3 (fun _=>?_) K pre
 simp only[ah.all,aA]
 refine⟨fun hb=>⟨fun hc=>⟨⟨aa,aa,hb,aa,aa,a1,b1,hc,aa,aa,a3,b3⟩,gl ?_⟩,fun hc=>⟨⟨aa,aa,hb,aa,aa,a1,b1,hc⟩,gl ?_⟩⟩,fun hb=>⟨fun h=>by simp at h,fun _=>⟨⟨aa,aa,hb,trivial⟩,gl ?_⟩⟩⟩
 ·have h1:=eq_of_beq hb
  have h2:=of_decide_eq_true (jH hc)
  rw[cond_true]
  exact decide_eq_decide.2 ⟨fun h=>qY.2 ⟨h1,h2,h⟩,fun h=>(qY.1 h).2.2⟩
 ·have h2:=of_decide_eq_false (jH hc)
  exact(decide_eq_false fun h=>h2 (qY.1 h).2.1).symm
 ·refine(decide_eq_false fun h=>?_).symm
  rw[(qY.1 h).1]at hb
  simp at hb
theorem oc {q:Rat}:q.num.natAbs=0↔q=0:=by rw[Int.natAbs_eq_zero,Rat.num_eq_zero]
theorem Qo {q:Rat} (h:q≠0) (h2:¬q<0):0<q:=by
 rw[Rat.lt_iff]
 have h3:¬q.num<0:=fun h=>h2 (js.2 h)
 have h4:q.num≠0:=fun h5=>h (Rat.num_eq_zero.1 h5)
 simp;omega
theorem KI {q:Rat} {n:Nat} (hn:n<2^44) (K:Nat) (pre:aE):aQ P vI K [.rat q n] pre (aJ (.int .i64 (fD q)) []):=by
 refine jV fun⟨hs1,_⟩=>?_
 obtain⟨a1,a2,a3⟩:=Sz.jR hs1 hn
 refine bZ hT nR hm ZX rfl aX rfl 60 agq (fun _=>?_) K pre
 simp only[ah.all,aA,beq_iff_eq,beq_eq_false_iff_ne,ne_eq]
 refine⟨⟨aa,a1⟩,fun hb=>bK ?_,fun hb=>⟨aa,fun hc=>bK ?_,fun hc=>bK ?_⟩⟩
 ·have h0:q=0:=oc.1 (Io.1 aa)
  subst h0
  rfl
 ·have:=of_decide_eq_true hc
  unfold fD;rw[if_pos this]
 ·have h1:=of_decide_eq_false hc
  have h0:q≠0:=fun h=>hb (by rw[h];rfl)
  unfold fD;rw[if_neg h1,if_pos (Qo h0 h1)]
def NR:Spec:=bY fun l=>match l with
 |[.rat q n]=>some (aJ (.int .i64 (fD q)) [n<2^44])
 |_=>none
theorem amE:aW P NR vI:=by
 refine cJ fun K args r hk hs _=>?_
 split at hs
 ·simp only[az]at hs
  subst hs
  exact fun need=>KI need K [] trivial
 ·simp at hs
theorem Ua {q:Rat} {n:Nat} (h:Sz q n):bN (.agg [.bool (decide (q<0)),.mag q.num.natAbs,.mag (if q.den=1 then 0 else q.den)]) (.rat q n):=tH h rfl rfl rfl
theorem ajL {q:Rat} {n:Nat} (hn:n<2^44) (K:Nat) (pre:aE):aQ P Cl K [.rat q n] pre (aJ (.rat q n) []):=by
 refine jV fun⟨hs1,_⟩=>?_
 have hs1:Sz q n:=hs1
 obtain⟨a1,a2,a3⟩:=Sz.jR hs1 hn
 refine bZ hT nR hm agI rfl aX rfl 60 ali (fun _=>?_) K pre
 simp only[ah.all,aA]
 exact⟨⟨aa,aa,a1,aa,a3,aa⟩,aa,Ua hs1⟩
def QU:Spec:=bY fun l=>match l with
 |[.rat q n]=>some (aJ (.rat q n) [n<2^44])
 |_=>none
theorem aff:aW P QU Cl:=by
 refine cJ fun K args r hk hs _=>?_
 split at hs
 ·simp only[az]at hs
  subst hs
  exact fun need=>ajL need K [] trivial
 ·simp at hs
theorem adn {n:Int} (h1:-2^63<=n) (h2:n<2^63) (K:Nat) (pre:aE):aQ P G4 K [.int .i64 n] pre (aJ (.mag n.natAbs) []):=by
 refine bZ hT nR hm Y4 rfl aX rfl 60 aiS (fun _=>?_) K pre
 simp only[ah.all,aA,beq_iff_eq,beq_eq_false_iff_ne,ne_eq]
 refine⟨fun hb=>⟨aa,dO ?_⟩,fun hb=>?_⟩
 ·subst hb;rfl
 ·have e:IntKind.i64.wrap (0-n)=-n:=by rw[wrap_i64 aa aa];omega
  rw[e]
  have e2 : IntKind.u64.wrap (if n < -n then -n else n) = ((n.natAbs : Nat) : Int) := by
   rw[cu (by split<;>omega) (by split<;>omega)]
   split<;>omega
  rw[e2]
  refine⟨⟨aa,aa⟩,dO (by rw[bn])⟩
def Sc:Spec:=bY fun l=>match l with
 |[.int .i64 n]=>some (aJ (.mag n.natAbs) [-2^63<=n,n<2^63])
 |_=>none
theorem aaj:aW P Sc G4:=by
 refine cJ fun K args r hk hs _=>?_
 split at hs
 ·simp only[az]at hs
  subst hs
  exact fun need=>adn need.1 need.2 K [] trivial
 ·simp at hs
def Jf:Spec:=bY fun l=>match l with
 |[.bool b,x,y]=>match jB x,jB y with
  |some N,some D=>some (aJ (.rat (sQ b N D) (cZ (sQ b N D))) [nl N<2^40,nl D<2^40])
  |_,_=>none
 |_=>none
theorem Tz:aW P Jf zG:=by
 refine cJ fun K args r hk hs _=>?_
 split at hs
 ·split at hs
  ·rename_i N D h1 h2
   simp only[az]at hs
   subst hs
   exact fun need=>gZ (adL need.1 need.2 K []) hk ⟨.refl _,mF h1,mF h2,trivial⟩ [] trivial
  ·simp at hs
 ·simp at hs
end Go.Am.B
