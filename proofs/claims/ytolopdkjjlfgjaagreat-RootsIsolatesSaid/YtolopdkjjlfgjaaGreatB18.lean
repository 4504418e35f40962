/- rational.den, parts, Same, Sign, copied, size: their contracts. -/
import Derived.Test.YtolopdkjjlfgjaaGreatB17
set_option linter.unusedVariables false
namespace Go.Am.B
open Go Go.Am.N AV
theorem agR {q:Rat} {n:Nat} (K:Nat) (pre:aE):aS P 120 K [.rat q n] pre (aM (.mag q.den) []):=by
 refine cF hT od hm Zy rfl aZ rfl 60 Tc (fun _=>?_) K pre
 simp only[af.all,az,beq_iff_eq,beq_eq_false_iff_ne,ne_eq]
 refine⟨aa,fun hb=>eU ?_,fun hb=>⟨aa,eU ?_⟩⟩
 ·have h0:=q.den_nz
  have:(if q.den=1 then 0 else q.den)=0:=lK.1 aa
  split at this
  ·rename_i h;rw[h]
  ·omega
 ·split
  ·rename_i h;rw[if_pos h]at hb;exact absurd (by decide) hb
  ·rfl
def Nz:Spec:=cw fun l=>match l with
 |[.rat q _]=>some (aM (.mag q.den) [])
 |_=>none
theorem T8:bf P Nz 120:=by
 refine dc fun K args r hk hs _=>?_
 split at hs
 ·simp only[ay]at hs
  subst hs
  exact agR K []
 ·simp at hs
def fl (q:Rat):Bool:=decide (q.num.natAbs<4294967296)&&decide (q.den<4294967296)
abbrev wm (q:Rat):AV:=.tuple [.int .u64 (if fl q then q.num.natAbs else 0:Nat),.int .u64 (if fl q then q.den else 0:Nat),.bool (fl q)]
theorem uw {N:Nat}:nl N<=1↔N<4294967296:=eo
theorem X0 {q:Rat} {n:Nat} (K:Nat) (pre:aE):aS P 116 K [.rat q n] pre (aM (wm q) []):=by
 refine cF hT od hm aeG rfl aZ rfl 60 WX (fun _=>?_) K pre
 simp only[af.all,az,beq_iff_eq,beq_eq_false_iff_ne,ne_eq,bD,bI,Int.toNat_zero]
 have hd:=q.den_nz
 have no:¬(q.num.natAbs<4294967296/\q.den<4294967296)->gJ [.int .u64 0,.int .u64 0,.bool false] (wm q):=by
  intro h
  have:fl q=false:=by
   unfold fl
   by_cases h1:q.num.natAbs<4294967296
   ·simp[h1];omega
   ·simp[h1]
  unfold wm
  rw[this]
  exact⟨.refl _,.refl _,.refl _,trivial⟩
 have yes:∀{x:Int} {v:Bool},q.num.natAbs<4294967296/\q.den<4294967296->x=(q.den:Nat)->v=true->gJ [.int .u64 (q.num.natAbs:Nat),.int .u64 x,.bool v] (wm q):=by
  intro x v h hx hv
  have:fl q=true:=by unfold fl;simp[h]
  unfold wm
  rw[this]
  exact⟨.refl _,cq hx,jS hv,trivial⟩
 have hden:∀{m:Nat},nl (if q.den=1 then 0 else q.den)<=m↔(q.den=1\/nl q.den<=m):=by
  intro m
  by_cases h:q.den=1
  ·simp[h];simp[nl]
  ·simp[h]
 refine⟨fun hb=>⟨⟨aa,hb⟩,fun _=>no ?_,fun h=>by simp at h⟩,fun hb=>⟨⟨aa,hb,aa⟩,fun hc=>no ?_,fun hc=>⟨aa,fun h1=>⟨⟨aa,aa,aa⟩,⟨aa,aa⟩,?_⟩,fun h1=>⟨⟨aa,aa⟩,yes ?_ ?_ rfl⟩⟩⟩⟩
 ·have:=uw (N:=q.num.natAbs);omega
 ·have h2:=of_decide_eq_true (jt hc)
  have h3:=hden (m:=1)
  have h4:=uw (N:=q.den)
  omega
 ·have h2:=of_decide_eq_false (jt hc)
  have hn1:q.den≠1:=fun h=>by rw[if_pos h]at h1;simp[nl]at h1
  rw[if_neg hn1]at h1 h2 ⊢
  have h4:=(uw (N:=q.den)).1 aa
  have h5:=(uw (N:=q.num.natAbs)).1 aa
  have hl:aD q.den 0=q.den:=by
   have:=ic (N:=q.den)
   rw[show nl q.den=1 by omega,val,val]at this
   simpa using this
  rw[hl,cJ aa aa]
  exact yes ⟨h5,h4⟩ rfl (by simp;omega)
 ·have h2:=of_decide_eq_false (jt hc)
  have h3:=hden (m:=1)
  have h3':=hden (m:=0)
  have h4:=uw (N:=q.den)
  have h5:=uw (N:=q.num.natAbs)
  have h6:=iB (N:=q.den)
  omega
 ·have h2:=of_decide_eq_false (jt hc)
  have h3:=hden (m:=0)
  have h6:=iB (N:=q.den)
  omega
def O3:Spec:=cw fun l=>match l with
 |[.rat q _]=>some (aM (wm q) [])
 |_=>none
theorem ahN:bf P O3 116:=by
 refine dc fun K args r hk hs _=>?_
 split at hs
 ·simp only[ay]at hs
  subst hs
  exact X0 K []
 ·simp at hs
theorem rG {q r:Rat}:q=r↔(decide (q<0)=decide (r<0))/\q.num.natAbs=r.num.natAbs/\(if q.den=1 then 0 else q.den)=(if r.den=1 then 0 else r.den):=by
 constructor
 ·intro h;subst h;exact⟨rfl,rfl,rfl⟩
 ·rintro⟨h1,h2,h3⟩
  have hd:q.den=r.den:=by
   have:=q.den_nz
   have:=r.den_nz
   split at h3<;>split at h3<;>omega
  rw[<-l7 q,<-l7 r,h1,h2,hd]
theorem Ue {q r:Rat} {n m:Nat} (hn:n<2^44) (hm':m<2^44) (K:Nat) (pre:aE):aS P 110 K [.rat q n,.rat r m] pre (aM (.bool (decide (q=r))) []):=by
 refine lQ fun⟨hs1,hs2,_⟩=>?_
 obtain⟨a1,a2,a3⟩:=Sz.kQ hs1 hn
 obtain⟨b1,b2,b3⟩:=Sz.kQ hs2 hm'
 refine cF hT od hm Z4 rfl aZ rfl 60 Uv (fun _=>?_) K pre
 simp only[af.all,az]
 refine⟨fun hb=>⟨fun hc=>⟨⟨aa,aa,hb,aa,aa,a1,b1,hc,aa,aa,a3,b3⟩,jS ?_⟩,fun hc=>⟨⟨aa,aa,hb,aa,aa,a1,b1,hc⟩,jS ?_⟩⟩,fun hb=>⟨fun h=>by simp at h,fun _=>⟨⟨aa,aa,hb,trivial⟩,jS ?_⟩⟩⟩
 ·have h1:=eq_of_beq hb
  have h2:=of_decide_eq_true (j4 hc)
  rw[cond_true]
  exact decide_eq_decide.2 ⟨fun h=>rG.2 ⟨h1,h2,h⟩,fun h=>(rG.1 h).2.2⟩
 ·have h2:=of_decide_eq_false (j4 hc)
  exact(decide_eq_false fun h=>h2 (rG.1 h).2.1).symm
 ·refine(decide_eq_false fun h=>?_).symm
  rw[(rG.1 h).1]at hb
  simp at hb
theorem pV {q:Rat}:q.num.natAbs=0↔q=0:=by rw[Int.natAbs_eq_zero,Rat.num_eq_zero]
theorem KR {q:Rat} (h:q≠0) (h2:¬q<0):0<q:=by
 rw[Rat.lt_iff]
 have h3:¬q.num<0:=fun h=>h2 (jH.2 h)
 have h4:q.num≠0:=fun h5=>h (Rat.num_eq_zero.1 h5)
 simp;omega
theorem Lg {q:Rat} {n:Nat} (hn:n<2^44) (K:Nat) (pre:aE):aS P 65 K [.rat q n] pre (aM (.int .i64 (bN q)) []):=by
 refine lQ fun⟨hs1,_⟩=>?_
 obtain⟨a1,a2,a3⟩:=Sz.kQ hs1 hn
 refine cF hT od hm XI rfl aZ rfl 60 WS (fun _=>?_) K pre
 simp only[af.all,az,beq_iff_eq,beq_eq_false_iff_ne,ne_eq]
 refine⟨⟨aa,a1⟩,fun hb=>cq ?_,fun hb=>⟨aa,fun hc=>cq ?_,fun hc=>cq ?_⟩⟩
 ·have h0:q=0:=pV.1 (Fe.1 aa)
  subst h0
  rfl
 ·have:=of_decide_eq_true hc
  unfold bN;rw[if_pos this]
 ·have h1:=of_decide_eq_false hc
  have h0:q≠0:=fun h=>hb (by rw[h];rfl)
  unfold bN;rw[if_neg h1,if_pos (KR h0 h1)]
def JP:Spec:=cw fun l=>match l with
 |[.rat q n]=>some (aM (.int .i64 (bN q)) [n<2^44])
 |_=>none
theorem TB:bf P JP 65:=by
 refine dc fun K args r hk hs _=>?_
 split at hs
 ·simp only[ay]at hs
  subst hs
  exact fun need=>Lg need K [] trivial
 ·simp at hs
theorem KC {q:Rat} {n:Nat} (h:Sz q n):bg (.agg [.bool (decide (q<0)),.mag q.num.natAbs,.mag (if q.den=1 then 0 else q.den)]) (.rat q n):=tT h rfl rfl rfl
theorem ab6 {q:Rat} {n:Nat} (hn:n<2^44) (K:Nat) (pre:aE):aS P 166 K [.rat q n] pre (aM (.rat q n) []):=by
 refine lQ fun⟨hs1,_⟩=>?_
 have hs1:Sz q n:=hs1
 obtain⟨a1,a2,a3⟩:=Sz.kQ hs1 hn
 refine cF hT od hm Zv rfl aZ rfl 60 aaE (fun _=>?_) K pre
 simp only[af.all,az]
 exact⟨⟨aa,aa,a1,aa,a3,aa⟩,aa,KC hs1⟩
def JB:Spec:=cw fun l=>match l with
 |[.rat q n]=>some (aM (.rat q n) [n<2^44])
 |_=>none
theorem SF:bf P JB 166:=by
 refine dc fun K args r hk hs _=>?_
 split at hs
 ·simp only[ay]at hs
  subst hs
  exact fun need=>ab6 need K [] trivial
 ·simp at hs
theorem YC {n:Int} (h1:-2^63<=n) (h2:n<2^63) (K:Nat) (pre:aE):aS P 134 K [.int .i64 n] pre (aM (.mag n.natAbs) []):=by
 refine cF hT od hm afR rfl aZ rfl 60 afz (fun _=>?_) K pre
 simp only[af.all,az,beq_iff_eq,beq_eq_false_iff_ne,ne_eq]
 refine⟨fun hb=>⟨aa,eU ?_⟩,fun hb=>?_⟩
 ·subst hb;rfl
 ·have e:IntKind.i64.wrap (0-n)=-n:=by rw[wrap_i64 aa aa];omega
  rw[e]
  have e2 : IntKind.u64.wrap (if n < -n then -n else n) = ((n.natAbs : Nat) : Int) := by
   rw[cJ (by split<;>omega) (by split<;>omega)]
   split<;>omega
  rw[e2]
  refine⟨⟨aa,aa⟩,eU (by rw[bG])⟩
def Ni:Spec:=cw fun l=>match l with
 |[.int .i64 n]=>some (aM (.mag n.natAbs) [-2^63<=n,n<2^63])
 |_=>none
theorem T0:bf P Ni 134:=by
 refine dc fun K args r hk hs _=>?_
 split at hs
 ·simp only[ay]at hs
  subst hs
  exact fun need=>YC need.1 need.2 K [] trivial
 ·simp at hs
def FW:Spec:=cw fun l=>match l with
 |[.bool b,x,y]=>match jK x,jK y with
  |some N,some D=>some (aM (.rat (sQ b N D) (dS (sQ b N D))) [nl N<2^40,nl D<2^40])
  |_,_=>none
 |_=>none
theorem Jk:bf P FW 133:=by
 refine dc fun K args r hk hs _=>?_
 split at hs
 ·split at hs
  ·rename_i N D h1 h2
   simp only[ay]at hs
   subst hs
   exact fun need=>gT (adG need.1 need.2 K []) hk ⟨.refl _,mB h1,mB h2,trivial⟩ [] trivial
  ·simp at hs
 ·simp at hs
end Go.Am.B
