/- rational.den, parts, Same, Sign, copied, size: their contracts. -/
import Derived.Test.YtolopdkjjlfgjaaGreatB17
set_option linter.unusedVariables false
namespace Go.Am.B
open Go Go.Am.N AV
theorem acR {q:Rat} {n:Nat} (K:Nat) (pre:aD):aO P 120 K [.rat q n] pre (aJ (.mag q.den) []):=by
 refine cj hT l5 hm aax rfl aX rfl 60 acn (fun _=>?_) K pre
 simp only[af.all,az,beq_iff_eq,beq_eq_false_iff_ne,ne_eq]
 refine⟨aa,fun hb=>dZ ?_,fun hb=>⟨aa,dZ ?_⟩⟩
 ·have h0:=q.den_nz
  have:(if q.den=1 then 0 else q.den)=0:=jO.1 aa
  split at this
  ·rename_i h;rw[h]
  ·omega
 ·split
  ·rename_i h;rw[if_pos h]at hb;exact absurd (by decide) hb
  ·rfl
def L7:Spec:=bR fun l=>match l with
 |[.rat q _]=>some (aJ (.mag q.den) [])
 |_=>none
theorem XJ:aY P L7 120:=by
 refine cD fun K args r hk hs _=>?_
 split at hs
 ·simp only[ay]at hs
  subst hs
  exact acR K []
 ·simp at hs
def ef (q:Rat):Bool:=decide (q.num.natAbs<4294967296)&&decide (q.den<4294967296)
abbrev rq (q:Rat):AV:=.tuple [.int .u64 (if ef q then q.num.natAbs else 0:Nat),.int .u64 (if ef q then q.den else 0:Nat),.bool (ef q)]
theorem sB {N:Nat}:nl N<=1↔N<4294967296:=dI
theorem RB {q:Rat} {n:Nat} (K:Nat) (pre:aD):aO P 116 K [.rat q n] pre (aJ (rq q) []):=by
 refine cj hT l5 hm QX rfl aX rfl 60 X7 (fun _=>?_) K pre
 simp only[af.all,az,beq_iff_eq,beq_eq_false_iff_ne,ne_eq,bz,bB,Int.toNat_zero]
 have hd:=q.den_nz
 have no:¬(q.num.natAbs<4294967296/\q.den<4294967296)->fQ [.int .u64 0,.int .u64 0,.bool false] (rq q):=by
  intro h
  have:ef q=false:=by
   unfold ef
   by_cases h1:q.num.natAbs<4294967296
   ·simp[h1];omega
   ·simp[h1]
  unfold rq
  rw[this]
  exact⟨.refl _,.refl _,.refl _,trivial⟩
 have yes:∀{x:Int} {v:Bool},q.num.natAbs<4294967296/\q.den<4294967296->x=(q.den:Nat)->v=true->fQ [.int .u64 (q.num.natAbs:Nat),.int .u64 x,.bool v] (rq q):=by
  intro x v h hx hv
  have:ef q=true:=by unfold ef;simp[h]
  unfold rq
  rw[this]
  exact⟨.refl _,bN hx,ku hv,trivial⟩
 have hden:∀{m:Nat},nl (if q.den=1 then 0 else q.den)<=m↔(q.den=1\/nl q.den<=m):=by
  intro m
  by_cases h:q.den=1
  ·simp[h];simp[nl]
  ·simp[h]
 refine⟨fun hb=>⟨⟨aa,hb⟩,fun _=>no ?_,fun h=>by simp at h⟩,fun hb=>⟨⟨aa,hb,aa⟩,fun hc=>no ?_,fun hc=>⟨aa,fun h1=>⟨⟨aa,aa,aa⟩,⟨aa,aa⟩,?_⟩,fun h1=>⟨⟨aa,aa⟩,yes ?_ ?_ rfl⟩⟩⟩⟩
 ·have:=sB (N:=q.num.natAbs);omega
 ·have h2:=of_decide_eq_true (hH hc)
  have h3:=hden (m:=1)
  have h4:=sB (N:=q.den)
  omega
 ·have h2:=of_decide_eq_false (hH hc)
  have hn1:q.den≠1:=fun h=>by rw[if_pos h]at h1;simp[nl]at h1
  rw[if_neg hn1]at h1 h2 ⊢
  have h4:=(sB (N:=q.den)).1 aa
  have h5:=(sB (N:=q.num.natAbs)).1 aa
  have hl:aB q.den 0=q.den:=by
   have:=ga (N:=q.den)
   rw[show nl q.den=1 by omega,val,val]at this
   simpa using this
  rw[hl,bZ aa aa]
  exact yes ⟨h5,h4⟩ rfl (by simp;omega)
 ·have h2:=of_decide_eq_false (hH hc)
  have h3:=hden (m:=1)
  have h3':=hden (m:=0)
  have h4:=sB (N:=q.den)
  have h5:=sB (N:=q.num.natAbs)
  have h6:=gr (N:=q.den)
  omega
 ·have h2:=of_decide_eq_false (hH hc)
  have h3:=hden (m:=0)
  have h6:=gr (N:=q.den)
  omega
def GB:Spec:=bR fun l=>match l with
 |[.rat q _]=>some (aJ (rq q) [])
 |_=>none
theorem TN:aY P GB 116:=by
 refine cD fun K args r hk hs _=>?_
 split at hs
 ·simp only[ay]at hs
  subst hs
  exact RB K []
 ·simp at hs
theorem ou {q r:Rat}:q=r↔(decide (q<0)=decide (r<0))/\q.num.natAbs=r.num.natAbs/\(if q.den=1 then 0 else q.den)=(if r.den=1 then 0 else r.den):=by
 constructor
 ·intro h;subst h;exact⟨rfl,rfl,rfl⟩
 ·rintro⟨h1,h2,h3⟩
  have hd:q.den=r.den:=by
   have:=q.den_nz
   have:=r.den_nz
   split at h3<;>split at h3<;>omega
  rw[<-jR q,<-jR r,h1,h2,hd]
theorem Xg {q r:Rat} {n m:Nat} (hn:n<2^44) (hm':m<2^44) (K:Nat) (pre:aD):aO P 110 K [.rat q n,.rat r m] pre (aJ (.bool (decide (q=r))) []):=by
 refine jU fun⟨hs1,hs2,_⟩=>?_
 obtain⟨a1,a2,a3⟩:=Sz.jF hs1 hn
 obtain⟨b1,b2,b3⟩:=Sz.jF hs2 hm'
 refine cj hT l5 hm Tb rfl aX rfl 60 Pb (fun _=>?_) K pre
 simp only[af.all,az]
 refine⟨fun hb=>⟨fun hc=>⟨⟨aa,aa,hb,aa,aa,a1,b1,hc,aa,aa,a3,b3⟩,ku ?_⟩,fun hc=>⟨⟨aa,aa,hb,aa,aa,a1,b1,hc⟩,ku ?_⟩⟩,fun hb=>⟨fun h=>by simp at h,fun _=>⟨⟨aa,aa,hb,trivial⟩,ku ?_⟩⟩⟩
 ·have h1:=eq_of_beq hb
  have h2:=of_decide_eq_true (jc hc)
  rw[cond_true]
  exact decide_eq_decide.2 ⟨fun h=>ou.2 ⟨h1,h2,h⟩,fun h=>(ou.1 h).2.2⟩
 ·have h2:=of_decide_eq_false (jc hc)
  exact(decide_eq_false fun h=>h2 (ou.1 h).2.1).symm
 ·refine(decide_eq_false fun h=>?_).symm
  rw[(ou.1 h).1]at hb
  simp at hb
theorem nq {q:Rat}:q.num.natAbs=0↔q=0:=by rw[Int.natAbs_eq_zero,Rat.num_eq_zero]
theorem Lt {q:Rat} (h:q≠0) (h2:¬q<0):0<q:=by
 rw[Rat.lt_iff]
 have h3:¬q.num<0:=fun h=>h2 (iT.2 h)
 have h4:q.num≠0:=fun h5=>h (Rat.num_eq_zero.1 h5)
 simp;omega
theorem J7 {q:Rat} {n:Nat} (hn:n<2^44) (K:Nat) (pre:aD):aO P 65 K [.rat q n] pre (aJ (.int .i64 (dm q)) []):=by
 refine jU fun⟨hs1,_⟩=>?_
 obtain⟨a1,a2,a3⟩:=Sz.jF hs1 hn
 refine cj hT l5 hm Sq rfl aX rfl 60 Mz (fun _=>?_) K pre
 simp only[af.all,az,beq_iff_eq,beq_eq_false_iff_ne,ne_eq]
 refine⟨⟨aa,a1⟩,fun hb=>bN ?_,fun hb=>⟨aa,fun hc=>bN ?_,fun hc=>bN ?_⟩⟩
 ·have h0:q=0:=nq.1 (CJ.1 aa)
  subst h0
  rfl
 ·have:=of_decide_eq_true hc
  unfold dm;rw[if_pos this]
 ·have h1:=of_decide_eq_false hc
  have h0:q≠0:=fun h=>hb (by rw[h];rfl)
  unfold dm;rw[if_neg h1,if_pos (Lt h0 h1)]
def Kf:Spec:=bR fun l=>match l with
 |[.rat q n]=>some (aJ (.int .i64 (dm q)) [n<2^44])
 |_=>none
theorem Y5:aY P Kf 65:=by
 refine cD fun K args r hk hs _=>?_
 split at hs
 ·simp only[ay]at hs
  subst hs
  exact fun need=>J7 need K [] trivial
 ·simp at hs
theorem Kx {q:Rat} {n:Nat} (h:Sz q n):bA (.agg [.bool (decide (q<0)),.mag q.num.natAbs,.mag (if q.den=1 then 0 else q.den)]) (.rat q n):=pZ h rfl rfl rfl
theorem TF {q:Rat} {n:Nat} (hn:n<2^44) (K:Nat) (pre:aD):aO P 166 K [.rat q n] pre (aJ (.rat q n) []):=by
 refine jU fun⟨hs1,_⟩=>?_
 have hs1:Sz q n:=hs1
 obtain⟨a1,a2,a3⟩:=Sz.jF hs1 hn
 refine cj hT l5 hm Sb rfl aX rfl 60 WI (fun _=>?_) K pre
 simp only[af.all,az]
 exact⟨⟨aa,aa,a1,aa,a3,aa⟩,aa,Kx hs1⟩
def J2:Spec:=bR fun l=>match l with
 |[.rat q n]=>some (aJ (.rat q n) [n<2^44])
 |_=>none
theorem WG:aY P J2 166:=by
 refine cD fun K args r hk hs _=>?_
 split at hs
 ·simp only[ay]at hs
  subst hs
  exact fun need=>TF need K [] trivial
 ·simp at hs
theorem N6 {n:Int} (h1:-2^63<=n) (h2:n<2^63) (K:Nat) (pre:aD):aO P 134 K [.int .i64 n] pre (aJ (.mag n.natAbs) []):=by
 refine cj hT l5 hm Ph rfl aX rfl 60 ac2 (fun _=>?_) K pre
 simp only[af.all,az,beq_iff_eq,beq_eq_false_iff_ne,ne_eq]
 refine⟨fun hb=>⟨aa,dZ ?_⟩,fun hb=>?_⟩
 ·subst hb;rfl
 ·have e:IntKind.i64.wrap (0-n)=-n:=by rw[wrap_i64 aa aa];omega
  rw[e]
  have e2 : IntKind.u64.wrap (if n < -n then -n else n) = ((n.natAbs : Nat) : Int) := by
   rw[bZ (by split<;>omega) (by split<;>omega)]
   split<;>omega
  rw[e2]
  refine⟨⟨aa,aa⟩,dZ (by rw[bw])⟩
def HV:Spec:=bR fun l=>match l with
 |[.int .i64 n]=>some (aJ (.mag n.natAbs) [-2^63<=n,n<2^63])
 |_=>none
theorem PB:aY P HV 134:=by
 refine cD fun K args r hk hs _=>?_
 split at hs
 ·simp only[ay]at hs
  subst hs
  exact fun need=>N6 need.1 need.2 K [] trivial
 ·simp at hs
def BG:Spec:=bR fun l=>match l with
 |[.bool b,x,y]=>match iR x,iR y with
  |some N,some D=>some (aJ (.rat (sQ b N D) (dx (sQ b N D))) [nl N<2^40,nl D<2^40])
  |_,_=>none
 |_=>none
theorem He:aY P BG 133:=by
 refine cD fun K args r hk hs _=>?_
 split at hs
 ·split at hs
  ·rename_i N D h1 h2
   simp only[ay]at hs
   subst hs
   exact fun need=>gz (ab2 need.1 need.2 K []) hk ⟨.refl _,kB h1,kB h2,trivial⟩ [] trivial
  ·simp at hs
 ·simp at hs
end Go.Am.B
