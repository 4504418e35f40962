/- rational.den, parts, Same, Sign, copied, size: their contracts. -/
import Derived.Test.YtolopdkjjlfgjaaGreatB17
set_option linter.unusedVariables false
namespace Go.Am.B
open Go Go.Am.N AV
theorem agE {q:Rat} {n:Nat} (K:Nat) (pre:aE):aQ P 120 K [.rat q n] pre (aL (.mag q.den) []):=by
 refine ck hT oG hm ai6 rfl aX rfl 60 af9 (fun _=>?_) K pre
 simp only[ag.all,az,beq_iff_eq,beq_eq_false_iff_ne,ne_eq]
 refine⟨aa,fun hb=>fk ?_,fun hb=>⟨aa,fk ?_⟩⟩
 ·have h0:=q.den_nz
  have:(if q.den=1 then 0 else q.den)=0:=jY.1 aa
  split at this
  ·rename_i h;rw[h]
  ·omega
 ·split
  ·rename_i h;rw[if_pos h]at hb;exact absurd (by decide) hb
  ·rfl
def HP:Spec:=cu fun l=>match l with
 |[.rat q _]=>some (aL (.mag q.den) [])
 |_=>none
theorem Oe:aY P HP 120:=by
 refine cW fun K args r hk hs _=>?_
 split at hs
 ·simp only[ay]at hs
  subst hs
  exact agE K []
 ·simp at hs
def fE (q:Rat):Bool:=decide (q.num.natAbs<4294967296)&&decide (q.den<4294967296)
abbrev wz (q:Rat):AV:=.tuple [.int .u64 (if fE q then q.num.natAbs else 0:Nat),.int .u64 (if fE q then q.den else 0:Nat),.bool (fE q)]
theorem vP {N:Nat}:nl N<=1↔N<4294967296:=eA
theorem RC {q:Rat} {n:Nat} (K:Nat) (pre:aE):aQ P 116 K [.rat q n] pre (aL (wz q) []):=by
 refine ck hT oG hm ahA rfl aX rfl 60 agv (fun _=>?_) K pre
 simp only[ag.all,az,beq_iff_eq,beq_eq_false_iff_ne,ne_eq,bB,bD,Int.toNat_zero]
 have hd:=q.den_nz
 have no:¬(q.num.natAbs<4294967296/\q.den<4294967296)->gx [.int .u64 0,.int .u64 0,.bool false] (wz q):=by
  intro h
  have:fE q=false:=by
   unfold fE
   by_cases h1:q.num.natAbs<4294967296
   ·simp[h1];omega
   ·simp[h1]
  unfold wz
  rw[this]
  exact⟨.refl _,.refl _,.refl _,trivial⟩
 have yes:∀{x:Int} {v:Bool},q.num.natAbs<4294967296/\q.den<4294967296->x=(q.den:Nat)->v=true->gx [.int .u64 (q.num.natAbs:Nat),.int .u64 x,.bool v] (wz q):=by
  intro x v h hx hv
  have:fE q=true:=by unfold fE;simp[h]
  unfold wz
  rw[this]
  exact⟨.refl _,cw hx,gG hv,trivial⟩
 have hden:∀{m:Nat},nl (if q.den=1 then 0 else q.den)<=m↔(q.den=1\/nl q.den<=m):=by
  intro m
  by_cases h:q.den=1
  ·simp[h];simp[nl]
  ·simp[h]
 refine⟨fun hb=>⟨⟨aa,hb⟩,fun _=>no ?_,fun h=>by simp at h⟩,fun hb=>⟨⟨aa,hb,aa⟩,fun hc=>no ?_,fun hc=>⟨aa,fun h1=>⟨⟨aa,aa,aa⟩,⟨aa,aa⟩,?_⟩,fun h1=>⟨⟨aa,aa⟩,yes ?_ ?_ rfl⟩⟩⟩⟩
 ·have:=vP (N:=q.num.natAbs);omega
 ·have h2:=of_decide_eq_true (jt hc)
  have h3:=hden (m:=1)
  have h4:=vP (N:=q.den)
  omega
 ·have h2:=of_decide_eq_false (jt hc)
  have hn1:q.den≠1:=fun h=>by rw[if_pos h]at h1;simp[nl]at h1
  rw[if_neg hn1]at h1 h2 ⊢
  have h4:=(vP (N:=q.den)).1 aa
  have h5:=(vP (N:=q.num.natAbs)).1 aa
  have hl:aD q.den 0=q.den:=by
   have:=iB (N:=q.den)
   rw[show nl q.den=1 by omega,val,val]at this
   simpa using this
  rw[hl,cK aa aa]
  exact yes ⟨h5,h4⟩ rfl (by simp;omega)
 ·have h2:=of_decide_eq_false (jt hc)
  have h3:=hden (m:=1)
  have h3':=hden (m:=0)
  have h4:=vP (N:=q.den)
  have h5:=vP (N:=q.num.natAbs)
  have h6:=iF (N:=q.den)
  omega
 ·have h2:=of_decide_eq_false (jt hc)
  have h3:=hden (m:=0)
  have h6:=iF (N:=q.den)
  omega
def Na:Spec:=cu fun l=>match l with
 |[.rat q _]=>some (aL (wz q) [])
 |_=>none
theorem aaA:aY P Na 116:=by
 refine cW fun K args r hk hs _=>?_
 split at hs
 ·simp only[ay]at hs
  subst hs
  exact RC K []
 ·simp at hs
theorem qU {q r:Rat}:q=r↔(decide (q<0)=decide (r<0))/\q.num.natAbs=r.num.natAbs/\(if q.den=1 then 0 else q.den)=(if r.den=1 then 0 else r.den):=by
 constructor
 ·intro h;subst h;exact⟨rfl,rfl,rfl⟩
 ·rintro⟨h1,h2,h3⟩
  have hd:q.den=r.den:=by
   have:=q.den_nz
   have:=r.den_nz
   split at h3<;>split at h3<;>omega
  rw[<-mC q,<-mC r,h1,h2,hd]
theorem ad5 {q r:Rat} {n m:Nat} (hn:n<2^44) (hm':m<2^44) (K:Nat) (pre:aE):aQ P 110 K [.rat q n,.rat r m] pre (aL (.bool (decide (q=r))) []):=by
 refine kS fun⟨hs1,hs2,_⟩=>?_
 obtain⟨a1,a2,a3⟩:=Sz.kU hs1 hn
 obtain⟨b1,b2,b3⟩:=Sz.kU hs2 hm'
 refine ck hT oG hm abZ rfl aX rfl 60 abr (fun _=>?_) K pre
 simp only[ag.all,az]
 refine⟨fun hb=>⟨fun hc=>⟨⟨aa,aa,hb,aa,aa,a1,b1,hc,aa,aa,a3,b3⟩,gG ?_⟩,fun hc=>⟨⟨aa,aa,hb,aa,aa,a1,b1,hc⟩,gG ?_⟩⟩,fun hb=>⟨fun h=>by simp at h,fun _=>⟨⟨aa,aa,hb,trivial⟩,gG ?_⟩⟩⟩
 ·have h1:=eq_of_beq hb
  have h2:=of_decide_eq_true (kE hc)
  rw[cond_true]
  exact decide_eq_decide.2 ⟨fun h=>qU.2 ⟨h1,h2,h⟩,fun h=>(qU.1 h).2.2⟩
 ·have h2:=of_decide_eq_false (kE hc)
  exact(decide_eq_false fun h=>h2 (qU.1 h).2.1).symm
 ·refine(decide_eq_false fun h=>?_).symm
  rw[(qU.1 h).1]at hb
  simp at hb
theorem oE {q:Rat}:q.num.natAbs=0↔q=0:=by rw[Int.natAbs_eq_zero,Rat.num_eq_zero]
theorem K0 {q:Rat} (h:q≠0) (h2:¬q<0):0<q:=by
 rw[Rat.lt_iff]
 have h3:¬q.num<0:=fun h=>h2 (jK.2 h)
 have h4:q.num≠0:=fun h5=>h (Rat.num_eq_zero.1 h5)
 simp;omega
theorem JP {q:Rat} {n:Nat} (hn:n<2^44) (K:Nat) (pre:aE):aQ P 65 K [.rat q n] pre (aL (.int .i64 (bL q)) []):=by
 refine kS fun⟨hs1,_⟩=>?_
 obtain⟨a1,a2,a3⟩:=Sz.kU hs1 hn
 refine ck hT oG hm WO rfl aX rfl 60 aan (fun _=>?_) K pre
 simp only[ag.all,az,beq_iff_eq,beq_eq_false_iff_ne,ne_eq]
 refine⟨⟨aa,a1⟩,fun hb=>cw ?_,fun hb=>⟨aa,fun hc=>cw ?_,fun hc=>cw ?_⟩⟩
 ·have h0:q=0:=oE.1 (Ez.1 aa)
  subst h0
  rfl
 ·have:=of_decide_eq_true hc
  unfold bL;rw[if_pos this]
 ·have h1:=of_decide_eq_false hc
  have h0:q≠0:=fun h=>hb (by rw[h];rfl)
  unfold bL;rw[if_neg h1,if_pos (K0 h0 h1)]
def MZ:Spec:=cu fun l=>match l with
 |[.rat q n]=>some (aL (.int .i64 (bL q)) [n<2^44])
 |_=>none
theorem Sd:aY P MZ 65:=by
 refine cW fun K args r hk hs _=>?_
 split at hs
 ·simp only[ay]at hs
  subst hs
  exact fun need=>JP need K [] trivial
 ·simp at hs
theorem LC {q:Rat} {n:Nat} (h:Sz q n):aW (.agg [.bool (decide (q<0)),.mag q.num.natAbs,.mag (if q.den=1 then 0 else q.den)]) (.rat q n):=ug h rfl rfl rfl
theorem ahd {q:Rat} {n:Nat} (hn:n<2^44) (K:Nat) (pre:aE):aQ P 166 K [.rat q n] pre (aL (.rat q n) []):=by
 refine kS fun⟨hs1,_⟩=>?_
 have hs1:Sz q n:=hs1
 obtain⟨a1,a2,a3⟩:=Sz.kU hs1 hn
 refine ck hT oG hm adD rfl aX rfl 60 aaJ (fun _=>?_) K pre
 simp only[ag.all,az]
 exact⟨⟨aa,aa,a1,aa,a3,aa⟩,aa,LC hs1⟩
def KU:Spec:=cu fun l=>match l with
 |[.rat q n]=>some (aL (.rat q n) [n<2^44])
 |_=>none
theorem ajO:aY P KU 166:=by
 refine cW fun K args r hk hs _=>?_
 split at hs
 ·simp only[ay]at hs
  subst hs
  exact fun need=>ahd need K [] trivial
 ·simp at hs
theorem ads {n:Int} (h1:-2^63<=n) (h2:n<2^63) (K:Nat) (pre:aE):aQ P 134 K [.int .i64 n] pre (aL (.mag n.natAbs) []):=by
 refine ck hT oG hm YJ rfl aX rfl 60 ajM (fun _=>?_) K pre
 simp only[ag.all,az,beq_iff_eq,beq_eq_false_iff_ne,ne_eq]
 refine⟨fun hb=>⟨aa,fk ?_⟩,fun hb=>?_⟩
 ·subst hb;rfl
 ·have e:IntKind.i64.wrap (0-n)=-n:=by rw[wrap_i64 aa aa];omega
  rw[e]
  have e2 : IntKind.u64.wrap (if n < -n then -n else n) = ((n.natAbs : Nat) : Int) := by
   rw[cK (by split<;>omega) (by split<;>omega)]
   split<;>omega
  rw[e2]
  refine⟨⟨aa,aa⟩,fk (by rw[bJ])⟩
def JK:Spec:=cu fun l=>match l with
 |[.int .i64 n]=>some (aL (.mag n.natAbs) [-2^63<=n,n<2^63])
 |_=>none
theorem ag3:aY P JK 134:=by
 refine cW fun K args r hk hs _=>?_
 split at hs
 ·simp only[ay]at hs
  subst hs
  exact fun need=>ads need.1 need.2 K [] trivial
 ·simp at hs
def HI:Spec:=cu fun l=>match l with
 |[.bool b,x,y]=>match jJ x,jJ y with
  |some N,some D=>some (aL (.rat (sQ b N D) (ef (sQ b N D))) [nl N<2^40,nl D<2^40])
  |_,_=>none
 |_=>none
theorem NH:aY P HI 133:=by
 refine cW fun K args r hk hs _=>?_
 split at hs
 ·split at hs
  ·rename_i N D h1 h2
   simp only[ay]at hs
   subst hs
   exact fun need=>gW (R5 need.1 need.2 K []) hk ⟨.refl _,mY h1,mY h2,trivial⟩ [] trivial
  ·simp at hs
 ·simp at hs
end Go.Am.B
