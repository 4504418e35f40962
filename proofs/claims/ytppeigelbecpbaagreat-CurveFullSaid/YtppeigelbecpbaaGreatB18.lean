/- rational.den, parts, Same, Sign, copied, size: their contracts. -/
import Derived.Test.YtppeigelbecpbaaGreatB17
set_option linter.unusedVariables false
namespace Go.Am.B
open Go Go.Am.N AV
theorem YR {q:Rat} {n:Nat} (K:Nat) (pre:aA):aB P p7 K [.rat q n] pre (aG (.mag q.den) []):=by
 refine bE hT jE hm UT rfl (of_decide_eq_true (by kernel_rfl)) rfl 60 P9 (fun _=>?_) K pre
 simp only[aa.all,az,beq_iff_eq,beq_eq_false_iff_ne,ne_eq]
 refine⟨by omega,fun hb=>cD ?_,fun hb=>⟨by omega,cD ?_⟩⟩
 ·have h0:=q.den_nz
  have:(if q.den=1 then 0 else q.den)=0:=gm.1 (by omega)
  split at this
  ·rename_i h;rw[h]
  ·omega
 ·split
  ·rename_i h;rw[if_pos h]at hb;exact absurd (by decide) hb
  ·rfl
def Bb:Spec:=bq fun l=>match l with
 |[.rat q _]=>some (aG (.mag q.den) [])
 |_=>none
theorem Du:∀K args pre r,Bb K args pre=some r→aB P p7 K args pre r:=by
 refine bL fun K args r hk hs _=>?_
 split at hs
 ·simp only[Option.some.injEq]at hs
  subst hs
  exact YR K []
 ·simp at hs
def cM (q:Rat):Bool:=decide (q.num.natAbs<4294967296)&&decide (q.den<4294967296)
abbrev pz (q:Rat):AV:=.tuple [.int .u64 (if cM q then q.num.natAbs else 0:Nat),.int .u64 (if cM q then q.den else 0:Nat),.bool (cM q)]
theorem pq {N:Nat}:nl N≤1↔N<4294967296:=cq
theorem Tx {q:Rat} {n:Nat} (K:Nat) (pre:aA):aB P sA K [.rat q n] pre (aG (pz q) []):=by
 refine bE hT jE hm Mj rfl (of_decide_eq_true (by kernel_rfl)) rfl 60 YX (fun _=>?_) K pre
 simp only[aa.all,az,beq_iff_eq,beq_eq_false_iff_ne,ne_eq,decide_eq_true_eq,decide_eq_false_iff_not,Int.toNat_zero]
 have hd:=q.den_nz
 have no:¬(q.num.natAbs<4294967296∧q.den<4294967296)→dY [.int .u64 0,.int .u64 0,.bool false] (pz q):=by
  intro h
  have:cM q=false:=by
   unfold cM
   by_cases h1:q.num.natAbs<4294967296
   ·simp[h1];omega
   ·simp[h1]
  unfold pz
  rw[this]
  exact⟨.refl _,.refl _,.refl _,trivial⟩
 have yes:∀{x:Int} {v:Bool},q.num.natAbs<4294967296∧q.den<4294967296→x=(q.den:Nat)→v=true→dY [.int .u64 (q.num.natAbs:Nat),.int .u64 x,.bool v] (pz q):=by
  intro x v h hx hv
  have:cM q=true:=by unfold cM;simp[h]
  unfold pz
  rw[this]
  exact⟨.refl _,bh hx,eI hv,trivial⟩
 have hden:∀{m:Nat},nl (if q.den=1 then 0 else q.den)≤m↔(q.den=1∨nl q.den≤m):=by
  intro m
  by_cases h:q.den=1
  ·simp[h];simp[nl]
  ·simp[h]
 refine⟨fun hb=>⟨⟨by omega,hb⟩,fun _=>no ?_,fun h=>by simp at h⟩,fun hb=>⟨⟨by omega,hb,by omega⟩,fun hc=>no ?_,fun hc=>⟨by omega,fun h1=>⟨⟨by omega,by omega,by omega⟩,⟨by omega,by omega⟩,?_⟩,fun h1=>⟨⟨by omega,by omega⟩,yes ?_ ?_ rfl⟩⟩⟩⟩
 ·have:=pq (N:=q.num.natAbs);omega
 ·have h2:=of_decide_eq_true (fE hc)
  have h3:=hden (m:=1)
  have h4:=pq (N:=q.den)
  omega
 ·have h2:=of_decide_eq_false (fE hc)
  have hn1:q.den≠1:=fun h=>by rw[if_pos h]at h1;simp[nl]at h1
  rw[if_neg hn1]at h1 h2 ⊢
  have h4:=(pq (N:=q.den)).1 (by omega)
  have h5:=(pq (N:=q.num.natAbs)).1 (by omega)
  have hl:ay q.den 0=q.den:=by
   have:=ep (N:=q.den)
   rw[show nl q.den=1 by omega,val,val]at this
   simpa using this
  rw[hl,bA (by omega) (by omega)]
  exact yes ⟨h5,h4⟩ rfl (by simp;omega)
 ·have h2:=of_decide_eq_false (fE hc)
  have h3:=hden (m:=1)
  have h3':=hden (m:=0)
  have h4:=pq (N:=q.den)
  have h5:=pq (N:=q.num.natAbs)
  have h6:=eL (N:=q.den)
  omega
 ·have h2:=of_decide_eq_false (fE hc)
  have h3:=hden (m:=0)
  have h6:=eL (N:=q.den)
  omega
def DD:Spec:=bq fun l=>match l with
 |[.rat q _]=>some (aG (pz q) [])
 |_=>none
theorem TV:∀K args pre r,DD K args pre=some r→aB P sA K args pre r:=by
 refine bL fun K args r hk hs _=>?_
 split at hs
 ·simp only[Option.some.injEq]at hs
  subst hs
  exact Tx K []
 ·simp at hs
theorem lz {q r:Rat}:q=r↔(decide (q<0)=decide (r<0))∧q.num.natAbs=r.num.natAbs∧(if q.den=1 then 0 else q.den)=(if r.den=1 then 0 else r.den):=by
 constructor
 ·intro h;subst h;exact⟨rfl,rfl,rfl⟩
 ·rintro⟨h1,h2,h3⟩
  have hd:q.den=r.den:=by
   have:=q.den_nz
   have:=r.den_nz
   split at h3<;>split at h3<;>omega
  rw[←iq q,←iq r,h1,h2,hd]
theorem D0 {q r:Rat} {n m:Nat} (hn:n<2^44) (hm':m<2^44) (K:Nat) (pre:aA):aB P fk K [.rat q n,.rat r m] pre (aG (.bool (decide (q=r))) []):=by
 refine gE fun⟨hs1,hs2,_⟩=>?_
 obtain⟨a1,a2,a3⟩:=Sz.gk hs1 hn
 obtain⟨b1,b2,b3⟩:=Sz.gk hs2 hm'
 refine bE hT jE hm Rq rfl (of_decide_eq_true (by kernel_rfl)) rfl 60 KF (fun _=>?_) K pre
 simp only[aa.all,az]
 refine⟨fun hb=>⟨fun hc=>⟨⟨by omega,by omega,hb,by omega,by omega,a1,b1,hc,by omega,by omega,a3,b3⟩,eI ?_⟩,fun hc=>⟨⟨by omega,by omega,hb,by omega,by omega,a1,b1,hc⟩,eI ?_⟩⟩,fun hb=>⟨fun h=>by simp at h,fun _=>⟨⟨by omega,by omega,hb,trivial⟩,eI ?_⟩⟩⟩
 ·have h1:=eq_of_beq hb
  have h2:=of_decide_eq_true (gx hc)
  rw[cond_true]
  exact decide_eq_decide.2 ⟨fun h=>lz.2 ⟨h1,h2,h⟩,fun h=>(lz.1 h).2.2⟩
 ·have h2:=of_decide_eq_false (gx hc)
  exact(decide_eq_false fun h=>h2 (lz.1 h).2.1).symm
 ·refine(decide_eq_false fun h=>?_).symm
  rw[(lz.1 h).1]at hb
  simp at hb
theorem k8 {q:Rat}:q.num.natAbs=0↔q=0:=by rw[Int.natAbs_eq_zero,Rat.num_eq_zero]
theorem F3 {q:Rat} (h:q≠0) (h2:¬q<0):0<q:=by
 rw[Rat.lt_iff]
 have h3:¬q.num<0:=fun h=>h2 (fW.2 h)
 have h4:q.num≠0:=fun h5=>h (Rat.num_eq_zero.1 h5)
 simp;omega
theorem BV {q:Rat} {n:Nat} (hn:n<2^44) (K:Nat) (pre:aA):aB P mG K [.rat q n] pre (aG (.int .i64 (dx q)) []):=by
 refine gE fun⟨hs1,_⟩=>?_
 obtain⟨a1,a2,a3⟩:=Sz.gk hs1 hn
 refine bE hT jE hm IF rfl (of_decide_eq_true (by kernel_rfl)) rfl 60 PC (fun _=>?_) K pre
 simp only[aa.all,az,beq_iff_eq,beq_eq_false_iff_ne,ne_eq]
 refine⟨⟨by omega,a1⟩,fun hb=>bh ?_,fun hb=>⟨by omega,fun hc=>bh ?_,fun hc=>bh ?_⟩⟩
 ·have h0:q=0:=k8.1 (zm.1 (by omega))
  subst h0
  rfl
 ·have:=of_decide_eq_true hc
  unfold dx;rw[if_pos this]
 ·have h1:=of_decide_eq_false hc
  have h0:q≠0:=fun h=>hb (by rw[h];rfl)
  unfold dx;rw[if_neg h1,if_pos (F3 h0 h1)]
def Gt:Spec:=bq fun l=>match l with
 |[.rat q n]=>some (aG (.int .i64 (dx q)) [n<2^44])
 |_=>none
theorem JK:∀K args pre r,Gt K args pre=some r→aB P mG K args pre r:=by
 refine bL fun K args r hk hs _=>?_
 split at hs
 ·simp only[Option.some.injEq]at hs
  subst hs
  exact fun need=>BV need K [] trivial
 ·simp at hs
theorem GL {q:Rat} {n:Nat} (h:Sz q n):bt (.agg [.bool (decide (q<0)),.mag q.num.natAbs,.mag (if q.den=1 then 0 else q.den)]) (.rat q n):=nL h rfl rfl rfl
theorem U2 {q:Rat} {n:Nat} (hn:n<2^44) (K:Nat) (pre:aA):aB P sU K [.rat q n] pre (aG (.rat q n) []):=by
 refine gE fun⟨hs1,_⟩=>?_
 have hs1:Sz q n:=hs1
 obtain⟨a1,a2,a3⟩:=Sz.gk hs1 hn
 refine bE hT jE hm Ka rfl (of_decide_eq_true (by kernel_rfl)) rfl 60 Pv (fun _=>?_) K pre
 simp only[aa.all,az]
 exact⟨⟨by omega,by omega,a1,by omega,a3,by omega⟩,by omega,GL hs1⟩
def C3:Spec:=bq fun l=>match l with
 |[.rat q n]=>some (aG (.rat q n) [n<2^44])
 |_=>none
theorem U4:∀K args pre r,C3 K args pre=some r→aB P sU K args pre r:=by
 refine bL fun K args r hk hs _=>?_
 split at hs
 ·simp only[Option.some.injEq]at hs
  subst hs
  exact fun need=>U2 need K [] trivial
 ·simp at hs
theorem Nf {n:Int} (h1:-2^63≤n) (h2:n<2^63) (K:Nat) (pre:aA):aB P qF K [.int .i64 n] pre (aG (.mag n.natAbs) []):=by
 refine bE hT jE hm I8 rfl (of_decide_eq_true (by kernel_rfl)) rfl 60 MU (fun _=>?_) K pre
 simp only[aa.all,az,beq_iff_eq,beq_eq_false_iff_ne,ne_eq]
 refine⟨fun hb=>⟨by omega,cD ?_⟩,fun hb=>?_⟩
 ·subst hb;rfl
 ·have e:IntKind.i64.wrap (0-n)=-n:=by rw[wrap_i64 (by omega) (by omega)];omega
  rw[e]
  have e2 : IntKind.u64.wrap (if n < -n then -n else n) = ((n.natAbs : Nat) : Int) := by
   rw[bA (by split<;>omega) (by split<;>omega)]
   split<;>omega
  rw[e2]
  refine⟨⟨by omega,by omega⟩,cD (by rw[Int.toNat_natCast])⟩
def EB:Spec:=bq fun l=>match l with
 |[.int .i64 n]=>some (aG (.mag n.natAbs) [-2^63≤n,n<2^63])
 |_=>none
theorem Wx:∀K args pre r,EB K args pre=some r→aB P qF K args pre r:=by
 refine bL fun K args r hk hs _=>?_
 split at hs
 ·simp only[Option.some.injEq]at hs
  subst hs
  exact fun need=>Nf need.1 need.2 K [] trivial
 ·simp at hs
def zB:Spec:=bq fun l=>match l with
 |[.bool b,x,y]=>match fT x,fT y with
  |some N,some D=>some (aG (.rat (sQ b N D) (bV (sQ b N D))) [nl N<2^40,nl D<2^40])
  |_,_=>none
 |_=>none
theorem Dv:∀K args pre r,zB K args pre=some r→aB P p5 K args pre r:=by
 refine bL fun K args r hk hs _=>?_
 split at hs
 ·split at hs
  ·rename_i N D h1 h2
   simp only[Option.some.injEq]at hs
   subst hs
   exact fun need=>eO (YA need.1 need.2 K []) hk ⟨.refl _,jc h1,jc h2,trivial⟩ [] trivial
  ·simp at hs
 ·simp at hs
end Go.Am.B
