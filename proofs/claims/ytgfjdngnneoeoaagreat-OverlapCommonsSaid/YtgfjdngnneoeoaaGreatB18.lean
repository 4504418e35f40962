/- rational.den, parts, Same, Sign, copied, size: their contracts. -/
import Derived.Test.YtgfjdngnneoeoaaGreatB17
set_option linter.unusedVariables false
namespace Go.Am.B
open Go Go.Am.N AV
theorem Ob {q:Rat} {n:Nat} (K:Nat) (pre:aD):aO P 88 K [.rat q n] pre (aI (.mag q.den) []):=by
 refine bJ hT mK hm RR rfl aV rfl 60 acY (fun _=>?_) K pre
 simp only[ag.all,au,beq_iff_eq,beq_eq_false_iff_ne,ne_eq]
 refine⟨aa,fun hb=>dM ?_,fun hb=>⟨aa,dM ?_⟩⟩
 ·have h0:=q.den_nz
  have:(if q.den=1 then 0 else q.den)=0:=jX.1 aa
  split at this
  ·rename_i h;rw[h]
  ·omega
 ·split
  ·rename_i h;rw[if_pos h]at hb;exact absurd (by decide) hb
  ·rfl
def J7:Spec:=bY fun l=>match l with
 |[.rat q _]=>some (aI (.mag q.den) [])
 |_=>none
theorem aad:aY P J7 88:=by
 refine cJ fun K args r hk hs _=>?_
 split at hs
 ·simp only[ax]at hs
  subst hs
  exact Ob K []
 ·simp at hs
def eu (q:Rat):Bool:=decide (q.num.natAbs<4294967296)&&decide (q.den<4294967296)
abbrev tC (q:Rat):AV:=.tuple [.int .u64 (if eu q then q.num.natAbs else 0:Nat),.int .u64 (if eu q then q.den else 0:Nat),.bool (eu q)]
theorem th {N:Nat}:nl N<=1↔N<4294967296:=dy
theorem abZ {q:Rat} {n:Nat} (K:Nat) (pre:aD):aO P 85 K [.rat q n] pre (aI (tC q) []):=by
 refine bJ hT mK hm agn rfl aV rfl 60 TJ (fun _=>?_) K pre
 simp only[ag.all,au,beq_iff_eq,beq_eq_false_iff_ne,ne_eq,bz,bF,Int.toNat_zero]
 have hd:=q.den_nz
 have no:¬(q.num.natAbs<4294967296/\q.den<4294967296)->fz [.int .u64 0,.int .u64 0,.bool false] (tC q):=by
  intro h
  have:eu q=false:=by
   unfold eu
   by_cases h1:q.num.natAbs<4294967296
   ·simp[h1];omega
   ·simp[h1]
  unfold tC
  rw[this]
  exact⟨.refl _,.refl _,.refl _,trivial⟩
 have yes:∀{x:Int} {v:Bool},q.num.natAbs<4294967296/\q.den<4294967296->x=(q.den:Nat)->v=true->fz [.int .u64 (q.num.natAbs:Nat),.int .u64 x,.bool v] (tC q):=by
  intro x v h hx hv
  have:eu q=true:=by unfold eu;simp[h]
  unfold tC
  rw[this]
  exact⟨.refl _,bU hx,gQ hv,trivial⟩
 have hden:∀{m:Nat},nl (if q.den=1 then 0 else q.den)<=m↔(q.den=1\/nl q.den<=m):=by
  intro m
  by_cases h:q.den=1
  ·simp[h];simp[nl]
  ·simp[h]
 refine⟨fun hb=>⟨⟨aa,hb⟩,fun _=>no ?_,fun h=>by simp at h⟩,fun hb=>⟨⟨aa,hb,aa⟩,fun hc=>no ?_,fun hc=>⟨aa,fun h1=>⟨⟨aa,aa,aa⟩,⟨aa,aa⟩,?_⟩,fun h1=>⟨⟨aa,aa⟩,yes ?_ ?_ rfl⟩⟩⟩⟩
 ·have:=th (N:=q.num.natAbs);omega
 ·have h2:=of_decide_eq_true (iD hc)
  have h3:=hden (m:=1)
  have h4:=th (N:=q.den)
  omega
 ·have h2:=of_decide_eq_false (iD hc)
  have hn1:q.den≠1:=fun h=>by rw[if_pos h]at h1;simp[nl]at h1
  rw[if_neg hn1]at h1 h2 ⊢
  have h4:=(th (N:=q.den)).1 aa
  have h5:=(th (N:=q.num.natAbs)).1 aa
  have hl:aB q.den 0=q.den:=by
   have:=gp (N:=q.den)
   rw[show nl q.den=1 by omega,val,val]at this
   simpa using this
  rw[hl,ck aa aa]
  exact yes ⟨h5,h4⟩ rfl (by simp;omega)
 ·have h2:=of_decide_eq_false (iD hc)
  have h3:=hden (m:=1)
  have h3':=hden (m:=0)
  have h4:=th (N:=q.den)
  have h5:=th (N:=q.num.natAbs)
  have h6:=gA (N:=q.den)
  omega
 ·have h2:=of_decide_eq_false (iD hc)
  have h3:=hden (m:=0)
  have h6:=gA (N:=q.den)
  omega
def J9:Spec:=bY fun l=>match l with
 |[.rat q _]=>some (aI (tC q) [])
 |_=>none
theorem ahf:aY P J9 85:=by
 refine cJ fun K args r hk hs _=>?_
 split at hs
 ·simp only[ax]at hs
  subst hs
  exact abZ K []
 ·simp at hs
theorem oU {q r:Rat}:q=r↔(decide (q<0)=decide (r<0))/\q.num.natAbs=r.num.natAbs/\(if q.den=1 then 0 else q.den)=(if r.den=1 then 0 else r.den):=by
 constructor
 ·intro h;subst h;exact⟨rfl,rfl,rfl⟩
 ·rintro⟨h1,h2,h3⟩
  have hd:q.den=r.den:=by
   have:=q.den_nz
   have:=r.den_nz
   split at h3<;>split at h3<;>omega
  rw[<-kB q,<-kB r,h1,h2,hd]
theorem Bu {q r:Rat} {n m:Nat} (hn:n<2^44) (hm':m<2^44) (K:Nat) (pre:aD):aO P 35 K [.rat q n,.rat r m] pre (aI (.bool (decide (q=r))) []):=by
 refine j8 fun⟨hs1,hs2,_⟩=>?_
 obtain⟨a1,a2,a3⟩:=Sz.jV hs1 hn
 obtain⟨b1,b2,b3⟩:=Sz.jV hs2 hm'
 refine bJ hT mK hm Ts rfl aV rfl 60 Rh (fun _=>?_) K pre
 simp only[ag.all,au]
 refine⟨fun hb=>⟨fun hc=>⟨⟨aa,aa,hb,aa,aa,a1,b1,hc,aa,aa,a3,b3⟩,gQ ?_⟩,fun hc=>⟨⟨aa,aa,hb,aa,aa,a1,b1,hc⟩,gQ ?_⟩⟩,fun hb=>⟨fun h=>by simp at h,fun _=>⟨⟨aa,aa,hb,trivial⟩,gQ ?_⟩⟩⟩
 ·have h1:=eq_of_beq hb
  have h2:=of_decide_eq_true (jt hc)
  rw[cond_true]
  exact decide_eq_decide.2 ⟨fun h=>oU.2 ⟨h1,h2,h⟩,fun h=>(oU.1 h).2.2⟩
 ·have h2:=of_decide_eq_false (jt hc)
  exact(decide_eq_false fun h=>h2 (oU.1 h).2.1).symm
 ·refine(decide_eq_false fun h=>?_).symm
  rw[(oU.1 h).1]at hb
  simp at hb
theorem nK {q:Rat}:q.num.natAbs=0↔q=0:=by rw[Int.natAbs_eq_zero,Rat.num_eq_zero]
theorem FY {q:Rat} (h:q≠0) (h2:¬q<0):0<q:=by
 rw[Rat.lt_iff]
 have h3:¬q.num<0:=fun h=>h2 (iZ.2 h)
 have h4:q.num≠0:=fun h5=>h (Rat.num_eq_zero.1 h5)
 simp;omega
theorem B4 {q:Rat} {n:Nat} (hn:n<2^44) (K:Nat) (pre:aD):aO P 84 K [.rat q n] pre (aI (.int .i64 (eE q)) []):=by
 refine j8 fun⟨hs1,_⟩=>?_
 obtain⟨a1,a2,a3⟩:=Sz.jV hs1 hn
 refine bJ hT mK hm X9 rfl aV rfl 60 aeI (fun _=>?_) K pre
 simp only[ag.all,au,beq_iff_eq,beq_eq_false_iff_ne,ne_eq]
 refine⟨⟨aa,a1⟩,fun hb=>bU ?_,fun hb=>⟨aa,fun hc=>bU ?_,fun hc=>bU ?_⟩⟩
 ·have h0:q=0:=nK.1 (Dy.1 aa)
  subst h0
  rfl
 ·have:=of_decide_eq_true hc
  unfold eE;rw[if_pos this]
 ·have h1:=of_decide_eq_false hc
  have h0:q≠0:=fun h=>hb (by rw[h];rfl)
  unfold eE;rw[if_neg h1,if_pos (FY h0 h1)]
def F4:Spec:=bY fun l=>match l with
 |[.rat q n]=>some (aI (.int .i64 (eE q)) [n<2^44])
 |_=>none
theorem Zq:aY P F4 84:=by
 refine cJ fun K args r hk hs _=>?_
 split at hs
 ·simp only[ax]at hs
  subst hs
  exact fun need=>B4 need K [] trivial
 ·simp at hs
theorem Ik {q:Rat} {n:Nat} (h:Sz q n):bg (.agg [.bool (decide (q<0)),.mag q.num.natAbs,.mag (if q.den=1 then 0 else q.den)]) (.rat q n):=rz h rfl rfl rfl
theorem VJ {q:Rat} {n:Nat} (hn:n<2^44) (K:Nat) (pre:aD):aO P 128 K [.rat q n] pre (aI (.rat q n) []):=by
 refine j8 fun⟨hs1,_⟩=>?_
 have hs1:Sz q n:=hs1
 obtain⟨a1,a2,a3⟩:=Sz.jV hs1 hn
 refine bJ hT mK hm TB rfl aV rfl 60 ZT (fun _=>?_) K pre
 simp only[ag.all,au]
 exact⟨⟨aa,aa,a1,aa,a3,aa⟩,aa,Ik hs1⟩
def L9:Spec:=bY fun l=>match l with
 |[.rat q n]=>some (aI (.rat q n) [n<2^44])
 |_=>none
theorem Qj:aY P L9 128:=by
 refine cJ fun K args r hk hs _=>?_
 split at hs
 ·simp only[ax]at hs
  subst hs
  exact fun need=>VJ need K [] trivial
 ·simp at hs
theorem X0 {n:Int} (h1:-2^63<=n) (h2:n<2^63) (K:Nat) (pre:aD):aO P 81 K [.int .i64 n] pre (aI (.mag n.natAbs) []):=by
 refine bJ hT mK hm Vh rfl aV rfl 60 adu (fun _=>?_) K pre
 simp only[ag.all,au,beq_iff_eq,beq_eq_false_iff_ne,ne_eq]
 refine⟨fun hb=>⟨aa,dM ?_⟩,fun hb=>?_⟩
 ·subst hb;rfl
 ·have e:IntKind.i64.wrap (0-n)=-n:=by rw[wrap_i64 aa aa];omega
  rw[e]
  have e2 : IntKind.u64.wrap (if n < -n then -n else n) = ((n.natAbs : Nat) : Int) := by
   rw[ck (by split<;>omega) (by split<;>omega)]
   split<;>omega
  rw[e2]
  refine⟨⟨aa,aa⟩,dM (by rw[bw])⟩
def LP:Spec:=bY fun l=>match l with
 |[.int .i64 n]=>some (aI (.mag n.natAbs) [-2^63<=n,n<2^63])
 |_=>none
theorem adO:aY P LP 81:=by
 refine cJ fun K args r hk hs _=>?_
 split at hs
 ·simp only[ax]at hs
  subst hs
  exact fun need=>X0 need.1 need.2 K [] trivial
 ·simp at hs
def Bw:Spec:=bY fun l=>match l with
 |[.bool b,x,y]=>match jh x,jh y with
  |some N,some D=>some (aI (.rat (sQ b N D) (dj (sQ b N D))) [nl N<2^40,nl D<2^40])
  |_,_=>none
 |_=>none
theorem ES:aY P Bw 80:=by
 refine cJ fun K args r hk hs _=>?_
 split at hs
 ·split at hs
  ·rename_i N D h1 h2
   simp only[ax]at hs
   subst hs
   exact fun need=>eW (VX need.1 need.2 K []) hk ⟨.refl _,kY h1,kY h2,trivial⟩ [] trivial
  ·simp at hs
 ·simp at hs
end Go.Am.B
