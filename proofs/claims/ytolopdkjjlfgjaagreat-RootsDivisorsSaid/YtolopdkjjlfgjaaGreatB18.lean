/- rational.den, parts, Same, Sign, copied, size: their contracts. -/
import Derived.Test.YtolopdkjjlfgjaaGreatB17
set_option linter.unusedVariables false
namespace Go.Am.B
open Go Go.Am.N AV
theorem Ri {q:Rat} {n:Nat} (K:Nat) (pre:aE):aO P 120 K [.rat q n] pre (aJ (.mag q.den) []):=by
 refine bW hT mL hm Rq rfl aW rfl 60 abb (fun _=>?_) K pre
 simp only[af.all,az,beq_iff_eq,beq_eq_false_iff_ne,ne_eq]
 refine⟨aa,fun hb=>en ?_,fun hb=>⟨aa,en ?_⟩⟩
 ·have h0:=q.den_nz
  have:(if q.den=1 then 0 else q.den)=0:=kB.1 aa
  split at this
  ·rename_i h;rw[h]
  ·omega
 ·split
  ·rename_i h;rw[if_pos h]at hb;exact absurd (by decide) hb
  ·rfl
def LB:Spec:=bR fun l=>match l with
 |[.rat q _]=>some (aJ (.mag q.den) [])
 |_=>none
theorem aaL:bf P LB 120:=by
 refine cE fun K args r hk hs _=>?_
 split at hs
 ·simp only[ax]at hs
  subst hs
  exact Ri K []
 ·simp at hs
def eE (q:Rat):Bool:=decide (q.num.natAbs<4294967296)&&decide (q.den<4294967296)
abbrev tO (q:Rat):AV:=.tuple [.int .u64 (if eE q then q.num.natAbs else 0:Nat),.int .u64 (if eE q then q.den else 0:Nat),.bool (eE q)]
theorem rN {N:Nat}:nl N<=1↔N<4294967296:=dB
theorem adB {q:Rat} {n:Nat} (K:Nat) (pre:aE):aO P 116 K [.rat q n] pre (aJ (tO q) []):=by
 refine bW hT mL hm ZW rfl aW rfl 60 NZ (fun _=>?_) K pre
 simp only[af.all,az,beq_iff_eq,beq_eq_false_iff_ne,ne_eq,bz,bE,Int.toNat_zero]
 have hd:=q.den_nz
 have no:¬(q.num.natAbs<4294967296/\q.den<4294967296)->fZ [.int .u64 0,.int .u64 0,.bool false] (tO q):=by
  intro h
  have:eE q=false:=by
   unfold eE
   by_cases h1:q.num.natAbs<4294967296
   ·simp[h1];omega
   ·simp[h1]
  unfold tO
  rw[this]
  exact⟨.refl _,.refl _,.refl _,trivial⟩
 have yes:∀{x:Int} {v:Bool},q.num.natAbs<4294967296/\q.den<4294967296->x=(q.den:Nat)->v=true->fZ [.int .u64 (q.num.natAbs:Nat),.int .u64 x,.bool v] (tO q):=by
  intro x v h hx hv
  have:eE q=true:=by unfold eE;simp[h]
  unfold tO
  rw[this]
  exact⟨.refl _,bQ hx,jR hv,trivial⟩
 have hden:∀{m:Nat},nl (if q.den=1 then 0 else q.den)<=m↔(q.den=1\/nl q.den<=m):=by
  intro m
  by_cases h:q.den=1
  ·simp[h];simp[nl]
  ·simp[h]
 refine⟨fun hb=>⟨⟨aa,hb⟩,fun _=>no ?_,fun h=>by simp at h⟩,fun hb=>⟨⟨aa,hb,aa⟩,fun hc=>no ?_,fun hc=>⟨aa,fun h1=>⟨⟨aa,aa,aa⟩,⟨aa,aa⟩,?_⟩,fun h1=>⟨⟨aa,aa⟩,yes ?_ ?_ rfl⟩⟩⟩⟩
 ·have:=rN (N:=q.num.natAbs);omega
 ·have h2:=of_decide_eq_true (iK hc)
  have h3:=hden (m:=1)
  have h4:=rN (N:=q.den)
  omega
 ·have h2:=of_decide_eq_false (iK hc)
  have hn1:q.den≠1:=fun h=>by rw[if_pos h]at h1;simp[nl]at h1
  rw[if_neg hn1]at h1 h2 ⊢
  have h4:=(rN (N:=q.den)).1 aa
  have h5:=(rN (N:=q.num.natAbs)).1 aa
  have hl:aB q.den 0=q.den:=by
   have:=gq (N:=q.den)
   rw[show nl q.den=1 by omega,val,val]at this
   simpa using this
  rw[hl,cj aa aa]
  exact yes ⟨h5,h4⟩ rfl (by simp;omega)
 ·have h2:=of_decide_eq_false (iK hc)
  have h3:=hden (m:=1)
  have h3':=hden (m:=0)
  have h4:=rN (N:=q.den)
  have h5:=rN (N:=q.num.natAbs)
  have h6:=gI (N:=q.den)
  omega
 ·have h2:=of_decide_eq_false (iK hc)
  have h3:=hden (m:=0)
  have h6:=gI (N:=q.den)
  omega
def Lb:Spec:=bR fun l=>match l with
 |[.rat q _]=>some (aJ (tO q) [])
 |_=>none
theorem Oh:bf P Lb 116:=by
 refine cE fun K args r hk hs _=>?_
 split at hs
 ·simp only[ax]at hs
  subst hs
  exact adB K []
 ·simp at hs
theorem oG {q r:Rat}:q=r↔(decide (q<0)=decide (r<0))/\q.num.natAbs=r.num.natAbs/\(if q.den=1 then 0 else q.den)=(if r.den=1 then 0 else r.den):=by
 constructor
 ·intro h;subst h;exact⟨rfl,rfl,rfl⟩
 ·rintro⟨h1,h2,h3⟩
  have hd:q.den=r.den:=by
   have:=q.den_nz
   have:=r.den_nz
   split at h3<;>split at h3<;>omega
  rw[<-kX q,<-kX r,h1,h2,hd]
theorem acd {q r:Rat} {n m:Nat} (hn:n<2^44) (hm':m<2^44) (K:Nat) (pre:aE):aO P 110 K [.rat q n,.rat r m] pre (aJ (.bool (decide (q=r))) []):=by
 refine kE fun⟨hs1,hs2,_⟩=>?_
 obtain⟨a1,a2,a3⟩:=Sz.j4 hs1 hn
 obtain⟨b1,b2,b3⟩:=Sz.j4 hs2 hm'
 refine bW hT mL hm Pf rfl aW rfl 60 PY (fun _=>?_) K pre
 simp only[af.all,az]
 refine⟨fun hb=>⟨fun hc=>⟨⟨aa,aa,hb,aa,aa,a1,b1,hc,aa,aa,a3,b3⟩,jR ?_⟩,fun hc=>⟨⟨aa,aa,hb,aa,aa,a1,b1,hc⟩,jR ?_⟩⟩,fun hb=>⟨fun h=>by simp at h,fun _=>⟨⟨aa,aa,hb,trivial⟩,jR ?_⟩⟩⟩
 ·have h1:=eq_of_beq hb
  have h2:=of_decide_eq_true (jy hc)
  rw[cond_true]
  exact decide_eq_decide.2 ⟨fun h=>oG.2 ⟨h1,h2,h⟩,fun h=>(oG.1 h).2.2⟩
 ·have h2:=of_decide_eq_false (jy hc)
  exact(decide_eq_false fun h=>h2 (oG.1 h).2.1).symm
 ·refine(decide_eq_false fun h=>?_).symm
  rw[(oG.1 h).1]at hb
  simp at hb
theorem nQ {q:Rat}:q.num.natAbs=0↔q=0:=by rw[Int.natAbs_eq_zero,Rat.num_eq_zero]
theorem IC {q:Rat} (h:q≠0) (h2:¬q<0):0<q:=by
 rw[Rat.lt_iff]
 have h3:¬q.num<0:=fun h=>h2 (je.2 h)
 have h4:q.num≠0:=fun h5=>h (Rat.num_eq_zero.1 h5)
 simp;omega
theorem F9 {q:Rat} {n:Nat} (hn:n<2^44) (K:Nat) (pre:aE):aO P 65 K [.rat q n] pre (aJ (.int .i64 (dJ q)) []):=by
 refine kE fun⟨hs1,_⟩=>?_
 obtain⟨a1,a2,a3⟩:=Sz.j4 hs1 hn
 refine bW hT mL hm T6 rfl aW rfl 60 acy (fun _=>?_) K pre
 simp only[af.all,az,beq_iff_eq,beq_eq_false_iff_ne,ne_eq]
 refine⟨⟨aa,a1⟩,fun hb=>bQ ?_,fun hb=>⟨aa,fun hc=>bQ ?_,fun hc=>bQ ?_⟩⟩
 ·have h0:q=0:=nQ.1 (CX.1 aa)
  subst h0
  rfl
 ·have:=of_decide_eq_true hc
  unfold dJ;rw[if_pos this]
 ·have h1:=of_decide_eq_false hc
  have h0:q≠0:=fun h=>hb (by rw[h];rfl)
  unfold dJ;rw[if_neg h1,if_pos (IC h0 h1)]
def IA:Spec:=bR fun l=>match l with
 |[.rat q n]=>some (aJ (.int .i64 (dJ q)) [n<2^44])
 |_=>none
theorem Zc:bf P IA 65:=by
 refine cE fun K args r hk hs _=>?_
 split at hs
 ·simp only[ax]at hs
  subst hs
  exact fun need=>F9 need K [] trivial
 ·simp at hs
theorem Lf {q:Rat} {n:Nat} (h:Sz q n):bB (.agg [.bool (decide (q<0)),.mag q.num.natAbs,.mag (if q.den=1 then 0 else q.den)]) (.rat q n):=qo h rfl rfl rfl
theorem Np {q:Rat} {n:Nat} (hn:n<2^44) (K:Nat) (pre:aE):aO P 166 K [.rat q n] pre (aJ (.rat q n) []):=by
 refine kE fun⟨hs1,_⟩=>?_
 have hs1:Sz q n:=hs1
 obtain⟨a1,a2,a3⟩:=Sz.j4 hs1 hn
 refine bW hT mL hm VR rfl aW rfl 60 QK (fun _=>?_) K pre
 simp only[af.all,az]
 exact⟨⟨aa,aa,a1,aa,a3,aa⟩,aa,Lf hs1⟩
def MN:Spec:=bR fun l=>match l with
 |[.rat q n]=>some (aJ (.rat q n) [n<2^44])
 |_=>none
theorem NQ:bf P MN 166:=by
 refine cE fun K args r hk hs _=>?_
 split at hs
 ·simp only[ax]at hs
  subst hs
  exact fun need=>Np need K [] trivial
 ·simp at hs
theorem Uv {n:Int} (h1:-2^63<=n) (h2:n<2^63) (K:Nat) (pre:aE):aO P 134 K [.int .i64 n] pre (aJ (.mag n.natAbs) []):=by
 refine bW hT mL hm Qx rfl aW rfl 60 abm (fun _=>?_) K pre
 simp only[af.all,az,beq_iff_eq,beq_eq_false_iff_ne,ne_eq]
 refine⟨fun hb=>⟨aa,en ?_⟩,fun hb=>?_⟩
 ·subst hb;rfl
 ·have e:IntKind.i64.wrap (0-n)=-n:=by rw[wrap_i64 aa aa];omega
  rw[e]
  have e2 : IntKind.u64.wrap (if n < -n then -n else n) = ((n.natAbs : Nat) : Int) := by
   rw[cj (by split<;>omega) (by split<;>omega)]
   split<;>omega
  rw[e2]
  refine⟨⟨aa,aa⟩,en (by rw[bu])⟩
def I6:Spec:=bR fun l=>match l with
 |[.int .i64 n]=>some (aJ (.mag n.natAbs) [-2^63<=n,n<2^63])
 |_=>none
theorem N4:bf P I6 134:=by
 refine cE fun K args r hk hs _=>?_
 split at hs
 ·simp only[ax]at hs
  subst hs
  exact fun need=>Uv need.1 need.2 K [] trivial
 ·simp at hs
def BV:Spec:=bR fun l=>match l with
 |[.bool b,x,y]=>match jn x,jn y with
  |some N,some D=>some (aJ (.rat (sQ b N D) (dj (sQ b N D))) [nl N<2^40,nl D<2^40])
  |_,_=>none
 |_=>none
theorem Mx:bf P BV 133:=by
 refine cE fun K args r hk hs _=>?_
 split at hs
 ·split at hs
  ·rename_i N D h1 h2
   simp only[ax]at hs
   subst hs
   exact fun need=>gC (Yq need.1 need.2 K []) hk ⟨.refl _,k8 h1,k8 h2,trivial⟩ [] trivial
  ·simp at hs
 ·simp at hs
end Go.Am.B
