/- rational.den, parts, Same, Sign, copied, size: their contracts. -/
import Derived.Test.YtppeigelbecpbaaGreatB17
set_option linter.unusedVariables false
namespace Go.Am.B
open Go Go.Am.N AV
theorem W9 {q:Rat} {n:Nat} (K:Nat) (pre:aA):az P rJ K [.rat q n] pre (aF (.mag q.den) []):=by
 refine bC hT ko hm Za rfl (of_decide_eq_true (by kernel_rfl)) rfl 60 OX (fun _=>?_) K pre
 simp only[aa.all,ax,beq_iff_eq,beq_eq_false_iff_ne,ne_eq]
 refine⟨by omega,fun hb=>de ?_,fun hb=>⟨by omega,de ?_⟩⟩
 ·have h0:=q.den_nz
  have:(if q.den=1 then 0 else q.den)=0:=gM.1 (by omega)
  split at this
  ·rename_i h;rw[h]
  ·omega
 ·split
  ·rename_i h;rw[if_pos h]at hb;exact absurd (by decide) hb
  ·rfl
def Cr:Spec:=bA fun l=>match l with
 |[.rat q _]=>some (aF (.mag q.den) [])
 |_=>none
theorem Gx:∀K args pre r,Cr K args pre=some r→az P rJ K args pre r:=by
 refine bS fun K args r hk hs _=>?_
 split at hs
 ·simp only[Option.some.injEq]at hs
  subst hs
  exact W9 K []
 ·simp at hs
def cY (q:Rat):Bool:=decide (q.num.natAbs<4294967296)&&decide (q.den<4294967296)
abbrev qh (q:Rat):AV:=.tuple [.int .u64 (if cY q then q.num.natAbs else 0:Nat),.int .u64 (if cY q then q.den else 0:Nat),.bool (cY q)]
theorem p9 {N:Nat}:nl N≤1↔N<4294967296:=cI
theorem abR {q:Rat} {n:Nat} (K:Nat) (pre:aA):az P wk K [.rat q n] pre (aF (qh q) []):=by
 refine bC hT ko hm ad1 rfl (of_decide_eq_true (by kernel_rfl)) rfl 60 Rf (fun _=>?_) K pre
 simp only[aa.all,ax,beq_iff_eq,beq_eq_false_iff_ne,ne_eq,decide_eq_true_eq,decide_eq_false_iff_not,Int.toNat_zero]
 have hd:=q.den_nz
 have no:¬(q.num.natAbs<4294967296∧q.den<4294967296)→dK [.int .u64 0,.int .u64 0,.bool false] (qh q):=by
  intro h
  have:cY q=false:=by
   unfold cY
   by_cases h1:q.num.natAbs<4294967296
   ·simp[h1];omega
   ·simp[h1]
  unfold qh
  rw[this]
  exact⟨.refl _,.refl _,.refl _,trivial⟩
 have yes:∀{x:Int} {v:Bool},q.num.natAbs<4294967296∧q.den<4294967296→x=(q.den:Nat)→v=true→dK [.int .u64 (q.num.natAbs:Nat),.int .u64 x,.bool v] (qh q):=by
  intro x v h hx hv
  have:cY q=true:=by unfold cY;simp[h]
  unfold qh
  rw[this]
  exact⟨.refl _,br hx,eM hv,trivial⟩
 have hden:∀{m:Nat},nl (if q.den=1 then 0 else q.den)≤m↔(q.den=1∨nl q.den≤m):=by
  intro m
  by_cases h:q.den=1
  ·simp[h];simp[nl]
  ·simp[h]
 refine⟨fun hb=>⟨⟨by omega,hb⟩,fun _=>no ?_,fun h=>by simp at h⟩,fun hb=>⟨⟨by omega,hb,by omega⟩,fun hc=>no ?_,fun hc=>⟨by omega,fun h1=>⟨⟨by omega,by omega,by omega⟩,⟨by omega,by omega⟩,?_⟩,fun h1=>⟨⟨by omega,by omega⟩,yes ?_ ?_ rfl⟩⟩⟩⟩
 ·have:=p9 (N:=q.num.natAbs);omega
 ·have h2:=of_decide_eq_true (ga hc)
  have h3:=hden (m:=1)
  have h4:=p9 (N:=q.den)
  omega
 ·have h2:=of_decide_eq_false (ga hc)
  have hn1:q.den≠1:=fun h=>by rw[if_pos h]at h1;simp[nl]at h1
  rw[if_neg hn1]at h1 h2 ⊢
  have h4:=(p9 (N:=q.den)).1 (by omega)
  have h5:=(p9 (N:=q.num.natAbs)).1 (by omega)
  have hl:ay q.den 0=q.den:=by
   have:=eR (N:=q.den)
   rw[show nl q.den=1 by omega,val,val]at this
   simpa using this
  rw[hl,bH (by omega) (by omega)]
  exact yes ⟨h5,h4⟩ rfl (by simp;omega)
 ·have h2:=of_decide_eq_false (ga hc)
  have h3:=hden (m:=1)
  have h3':=hden (m:=0)
  have h4:=p9 (N:=q.den)
  have h5:=p9 (N:=q.num.natAbs)
  have h6:=eV (N:=q.den)
  omega
 ·have h2:=of_decide_eq_false (ga hc)
  have h3:=hden (m:=0)
  have h6:=eV (N:=q.den)
  omega
def Kt:Spec:=bA fun l=>match l with
 |[.rat q _]=>some (aF (qh q) [])
 |_=>none
theorem OP:∀K args pre r,Kt K args pre=some r→az P wk K args pre r:=by
 refine bS fun K args r hk hs _=>?_
 split at hs
 ·simp only[Option.some.injEq]at hs
  subst hs
  exact abR K []
 ·simp at hs
theorem m8 {q r:Rat}:q=r↔(decide (q<0)=decide (r<0))∧q.num.natAbs=r.num.natAbs∧(if q.den=1 then 0 else q.den)=(if r.den=1 then 0 else r.den):=by
 constructor
 ·intro h;subst h;exact⟨rfl,rfl,rfl⟩
 ·rintro⟨h1,h2,h3⟩
  have hd:q.den=r.den:=by
   have:=q.den_nz
   have:=r.den_nz
   split at h3<;>split at h3<;>omega
  rw[←jo q,←jo r,h1,h2,hd]
theorem FM {q r:Rat} {n m:Nat} (hn:n<2^44) (hm':m<2^44) (K:Nat) (pre:aA):az P fJ K [.rat q n,.rat r m] pre (aF (.bool (decide (q=r))) []):=by
 refine gU fun⟨hs1,hs2,_⟩=>?_
 obtain⟨a1,a2,a3⟩:=Sz.gN hs1 hn
 obtain⟨b1,b2,b3⟩:=Sz.gN hs2 hm'
 refine bC hT ko hm aeP rfl (of_decide_eq_true (by kernel_rfl)) rfl 60 Qm (fun _=>?_) K pre
 simp only[aa.all,ax]
 refine⟨fun hb=>⟨fun hc=>⟨⟨by omega,by omega,hb,by omega,by omega,a1,b1,hc,by omega,by omega,a3,b3⟩,eM ?_⟩,fun hc=>⟨⟨by omega,by omega,hb,by omega,by omega,a1,b1,hc⟩,eM ?_⟩⟩,fun hb=>⟨fun h=>by simp at h,fun _=>⟨⟨by omega,by omega,hb,trivial⟩,eM ?_⟩⟩⟩
 ·have h1:=eq_of_beq hb
  have h2:=of_decide_eq_true (gV hc)
  rw[cond_true]
  exact decide_eq_decide.2 ⟨fun h=>m8.2 ⟨h1,h2,h⟩,fun h=>(m8.1 h).2.2⟩
 ·have h2:=of_decide_eq_false (gV hc)
  exact(decide_eq_false fun h=>h2 (m8.1 h).2.1).symm
 ·refine(decide_eq_false fun h=>?_).symm
  rw[(m8.1 h).1]at hb
  simp at hb
theorem kZ {q:Rat}:q.num.natAbs=0↔q=0:=by rw[Int.natAbs_eq_zero,Rat.num_eq_zero]
theorem Kp {q:Rat} (h:q≠0) (h2:¬q<0):0<q:=by
 rw[Rat.lt_iff]
 have h3:¬q.num<0:=fun h=>h2 (gx.2 h)
 have h4:q.num≠0:=fun h5=>h (Rat.num_eq_zero.1 h5)
 simp;omega
theorem Dy {q:Rat} {n:Nat} (hn:n<2^44) (K:Nat) (pre:aA):az P oA K [.rat q n] pre (aF (.int .i64 (dL q)) []):=by
 refine gU fun⟨hs1,_⟩=>?_
 obtain⟨a1,a2,a3⟩:=Sz.gN hs1 hn
 refine bC hT ko hm XV rfl (of_decide_eq_true (by kernel_rfl)) rfl 60 Z0 (fun _=>?_) K pre
 simp only[aa.all,ax,beq_iff_eq,beq_eq_false_iff_ne,ne_eq]
 refine⟨⟨by omega,a1⟩,fun hb=>br ?_,fun hb=>⟨by omega,fun hc=>br ?_,fun hc=>br ?_⟩⟩
 ·have h0:q=0:=kZ.1 (Dm.1 (by omega))
  subst h0
  rfl
 ·have:=of_decide_eq_true hc
  unfold dL;rw[if_pos this]
 ·have h1:=of_decide_eq_false hc
  have h0:q≠0:=fun h=>hb (by rw[h];rfl)
  unfold dL;rw[if_neg h1,if_pos (Kp h0 h1)]
def Gb:Spec:=bA fun l=>match l with
 |[.rat q n]=>some (aF (.int .i64 (dL q)) [n<2^44])
 |_=>none
theorem abn:∀K args pre r,Gb K args pre=some r→az P oA K args pre r:=by
 refine bS fun K args r hk hs _=>?_
 split at hs
 ·simp only[Option.some.injEq]at hs
  subst hs
  exact fun need=>Dy need K [] trivial
 ·simp at hs
theorem IW {q:Rat} {n:Nat} (h:Sz q n):bz (.agg [.bool (decide (q<0)),.mag q.num.natAbs,.mag (if q.den=1 then 0 else q.den)]) (.rat q n):=oG h rfl rfl rfl
theorem XA {q:Rat} {n:Nat} (hn:n<2^44) (K:Nat) (pre:aA):az P tC K [.rat q n] pre (aF (.rat q n) []):=by
 refine gU fun⟨hs1,_⟩=>?_
 have hs1:Sz q n:=hs1
 obtain⟨a1,a2,a3⟩:=Sz.gN hs1 hn
 refine bC hT ko hm W6 rfl (of_decide_eq_true (by kernel_rfl)) rfl 60 Sd (fun _=>?_) K pre
 simp only[aa.all,ax]
 exact⟨⟨by omega,by omega,a1,by omega,a3,by omega⟩,by omega,IW hs1⟩
def Ks:Spec:=bA fun l=>match l with
 |[.rat q n]=>some (aF (.rat q n) [n<2^44])
 |_=>none
theorem aeu:∀K args pre r,Ks K args pre=some r→az P tC K args pre r:=by
 refine bS fun K args r hk hs _=>?_
 split at hs
 ·simp only[Option.some.injEq]at hs
  subst hs
  exact fun need=>XA need K [] trivial
 ·simp at hs
theorem PG {n:Int} (h1:-2^63≤n) (h2:n<2^63) (K:Nat) (pre:aA):az P vu K [.int .i64 n] pre (aF (.mag n.natAbs) []):=by
 refine bC hT ko hm S6 rfl (of_decide_eq_true (by kernel_rfl)) rfl 60 Yl (fun _=>?_) K pre
 simp only[aa.all,ax,beq_iff_eq,beq_eq_false_iff_ne,ne_eq]
 refine⟨fun hb=>⟨by omega,de ?_⟩,fun hb=>?_⟩
 ·subst hb;rfl
 ·have e:IntKind.i64.wrap (0-n)=-n:=by rw[wrap_i64 (by omega) (by omega)];omega
  rw[e]
  have e2 : IntKind.u64.wrap (if n < -n then -n else n) = ((n.natAbs : Nat) : Int) := by
   rw[bH (by split<;>omega) (by split<;>omega)]
   split<;>omega
  rw[e2]
  refine⟨⟨by omega,by omega⟩,de (by rw[Int.toNat_natCast])⟩
def I8:Spec:=bA fun l=>match l with
 |[.int .i64 n]=>some (aF (.mag n.natAbs) [-2^63≤n,n<2^63])
 |_=>none
theorem aaW:∀K args pre r,I8 K args pre=some r→az P vu K args pre r:=by
 refine bS fun K args r hk hs _=>?_
 split at hs
 ·simp only[Option.some.injEq]at hs
  subst hs
  exact fun need=>PG need.1 need.2 K [] trivial
 ·simp at hs
def E5:Spec:=bA fun l=>match l with
 |[.bool b,x,y]=>match gC x,gC y with
  |some N,some D=>some (aF (.rat (sQ b N D) (ck (sQ b N D))) [nl N<2^40,nl D<2^40])
  |_,_=>none
 |_=>none
theorem HY:∀K args pre r,E5 K args pre=some r→az P r8 K args pre r:=by
 refine bS fun K args r hk hs _=>?_
 split at hs
 ·split at hs
  ·rename_i N D h1 h2
   simp only[Option.some.injEq]at hs
   subst hs
   exact fun need=>fP (WT need.1 need.2 K []) hk ⟨.refl _,jB h1,jB h2,trivial⟩ [] trivial
  ·simp at hs
 ·simp at hs
end Go.Am.B
