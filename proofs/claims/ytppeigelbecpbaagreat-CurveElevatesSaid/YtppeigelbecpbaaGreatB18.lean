/- rational. -/
import Derived.Test.YtppeigelbecpbaaGreatB17
set_option linter.unusedVariables false
namespace Go.Am.B
open Go Go.Am.N AV
theorem aio {q:Rat} {n:Nat} (K:Nat) (pre:aF):aE P AA K [.rat q n] pre (aK (.mag q.den) []):=by
 refine cj hT nk hm akX rfl aX rfl 60 ZH (fun _=>?_) K pre
 simp only[ah.all,az,beq_iff_eq,beq_eq_false_iff_ne,ne_eq]
 refine⟨aa,fun hb=>dF ?_,fun hb=>⟨aa,dF ?_⟩⟩
 ·have h0:=q.den_nz
  have:(if q.den=1 then 0 else q.den)=0:=jG.1 aa
  split at this
  ·rename_i h;rw[h]
  ·omega
 ·split
  ·rename_i h;rw[if_pos h]at hb;exact absurd (by decide) hb
  ·rfl
def Hy:Spec:=bX fun l=>match l with
 |[.rat q _]=>some (aK (.mag q.den) [])
 |_=>none
theorem Mt:∀K args pre r,Hy K args pre=some r->aE P AA K args pre r:=by
 refine cK fun K args r hk hs _=>?_
 split at hs
 ·simp only[ay]at hs
  subst hs
  exact aio K []
 ·simp at hs
def dX (q:Rat):Bool:=decide (q.num.natAbs<4294967296)&&decide (q.den<4294967296)
abbrev wQ (q:Rat):AV:=.tuple [.int .u64 (if dX q then q.num.natAbs else 0:Nat),.int .u64 (if dX q then q.den else 0:Nat),.bool (dX q)]
theorem vF {N:Nat}:nl N<=1↔N<4294967296:=dz
theorem akm {q:Rat} {n:Nat} (K:Nat) (pre:aF):aE P FM K [.rat q n] pre (aK (wQ q) []):=by
 refine cj hT nk hm aag rfl aX rfl 60 aea (fun _=>?_) K pre
 simp only[ah.all,az,beq_iff_eq,beq_eq_false_iff_ne,ne_eq,aZ,bk,Int.toNat_zero]
 have hd:=q.den_nz
 have no:¬(q.num.natAbs<4294967296/\q.den<4294967296)->eF [.int .u64 0,.int .u64 0,.bool false] (wQ q):=by
  intro h
  have:dX q=false:=by
   unfold dX
   by_cases h1:q.num.natAbs<4294967296
   ·simp[h1];omega
   ·simp[h1]
  unfold wQ
  rw[this]
  exact⟨.refl _,.refl _,.refl _,trivial⟩
 have yes:∀{x:Int} {v:Bool},q.num.natAbs<4294967296/\q.den<4294967296->x=(q.den:Nat)->v=true->eF [.int .u64 (q.num.natAbs:Nat),.int .u64 x,.bool v] (wQ q):=by
  intro x v h hx hv
  have:dX q=true:=by unfold dX;simp[h]
  unfold wQ
  rw[this]
  exact⟨.refl _,bQ hx,fB hv,trivial⟩
 have hden:∀{m:Nat},nl (if q.den=1 then 0 else q.den)<=m↔(q.den=1\/nl q.den<=m):=by
  intro m
  by_cases h:q.den=1
  ·simp[h];simp[nl]
  ·simp[h]
 refine⟨fun hb=>⟨⟨aa,hb⟩,fun _=>no ?_,fun h=>by simp at h⟩,fun hb=>⟨⟨aa,hb,aa⟩,fun hc=>no ?_,fun hc=>⟨aa,fun h1=>⟨⟨aa,aa,aa⟩,⟨aa,aa⟩,?_⟩,fun h1=>⟨⟨aa,aa⟩,yes ?_ ?_ rfl⟩⟩⟩⟩
 ·have:=vF (N:=q.num.natAbs);omega
 ·have h2:=of_decide_eq_true (iF hc)
  have h3:=hden (m:=1)
  have h4:=vF (N:=q.den)
  omega
 ·have h2:=of_decide_eq_false (iF hc)
  have hn1:q.den≠1:=fun h=>by rw[if_pos h]at h1;simp[nl]at h1
  rw[if_neg hn1]at h1 h2 ⊢
  have h4:=(vF (N:=q.den)).1 aa
  have h5:=(vF (N:=q.num.natAbs)).1 aa
  have hl:aG q.den 0=q.den:=by
   have:=fZ (N:=q.den)
   rw[show nl q.den=1 by omega,val,val]at this
   simpa using this
  rw[hl,cu aa aa]
  exact yes ⟨h5,h4⟩ rfl (by simp;omega)
 ·have h2:=of_decide_eq_false (iF hc)
  have h3:=hden (m:=1)
  have h3':=hden (m:=0)
  have h4:=vF (N:=q.den)
  have h5:=vF (N:=q.num.natAbs)
  have h6:=gn (N:=q.den)
  omega
 ·have h2:=of_decide_eq_false (iF hc)
  have h3:=hden (m:=0)
  have h6:=gn (N:=q.den)
  omega
def Sq:Spec:=bX fun l=>match l with
 |[.rat q _]=>some (aK (wQ q) [])
 |_=>none
theorem ah1:∀K args pre r,Sq K args pre=some r->aE P FM K args pre r:=by
 refine cK fun K args r hk hs _=>?_
 split at hs
 ·simp only[ay]at hs
  subst hs
  exact akm K []
 ·simp at hs
theorem rj {q r:Rat}:q=r↔(decide (q<0)=decide (r<0))/\q.num.natAbs=r.num.natAbs/\(if q.den=1 then 0 else q.den)=(if r.den=1 then 0 else r.den):=by
 constructor
 ·intro h;subst h;exact⟨rfl,rfl,rfl⟩
 ·rintro⟨h1,h2,h3⟩
  have hd:q.den=r.den:=by
   have:=q.den_nz
   have:=r.den_nz
   split at h3<;>split at h3<;>omega
  rw[<-lJ q,<-lJ r,h1,h2,hd]
theorem SS {q r:Rat} {n m:Nat} (hn:n<2^44) (hm':m<2^44) (K:Nat) (pre:aF):aE P gX K [.rat q n,.rat r m] pre (aK (.bool (decide (q=r))) []):=by
 refine jn fun⟨hs1,hs2,_⟩=>?_
 obtain⟨a1,a2,a3⟩:=Sz.jz hs1 hn
 obtain⟨b1,b2,b3⟩:=Sz.jz hs2 hm'
 refine cj hT nk hm adZ rfl aX rfl 60 alT (fun _=>?_) K pre
 simp only[ah.all,az]
 refine⟨fun hb=>⟨fun hc=>⟨⟨aa,aa,hb,aa,aa,a1,b1,hc,aa,aa,a3,b3⟩,fB ?_⟩,fun hc=>⟨⟨aa,aa,hb,aa,aa,a1,b1,hc⟩,fB ?_⟩⟩,fun hb=>⟨fun h=>by simp at h,fun _=>⟨⟨aa,aa,hb,trivial⟩,fB ?_⟩⟩⟩
 ·have h1:=eq_of_beq hb
  have h2:=of_decide_eq_true (jv hc)
  rw[cond_true]
  exact decide_eq_decide.2 ⟨fun h=>rj.2 ⟨h1,h2,h⟩,fun h=>(rj.1 h).2.2⟩
 ·have h2:=of_decide_eq_false (jv hc)
  exact(decide_eq_false fun h=>h2 (rj.1 h).2.1).symm
 ·refine(decide_eq_false fun h=>?_).symm
  rw[(rj.1 h).1]at hb
  simp at hb
theorem nu {q:Rat}:q.num.natAbs=0↔q=0:=by rw[Int.natAbs_eq_zero,Rat.num_eq_zero]
theorem Pv {q:Rat} (h:q≠0) (h2:¬q<0):0<q:=by
 rw[Rat.lt_iff]
 have h3:¬q.num<0:=fun h=>h2 (iS.2 h)
 have h4:q.num≠0:=fun h5=>h (Rat.num_eq_zero.1 h5)
 simp;omega
theorem IM {q:Rat} {n:Nat} (hn:n<2^44) (K:Nat) (pre:aF):aE P vC K [.rat q n] pre (aK (.int .i64 (eW q)) []):=by
 refine jn fun⟨hs1,_⟩=>?_
 obtain⟨a1,a2,a3⟩:=Sz.jz hs1 hn
 refine cj hT nk hm aa7 rfl aX rfl 60 aeF (fun _=>?_) K pre
 simp only[ah.all,az,beq_iff_eq,beq_eq_false_iff_ne,ne_eq]
 refine⟨⟨aa,a1⟩,fun hb=>bQ ?_,fun hb=>⟨aa,fun hc=>bQ ?_,fun hc=>bQ ?_⟩⟩
 ·have h0:q=0:=nu.1 (HO.1 aa)
  subst h0
  rfl
 ·have:=of_decide_eq_true hc
  unfold eW;rw[if_pos this]
 ·have h1:=of_decide_eq_false hc
  have h0:q≠0:=fun h=>hb (by rw[h];rfl)
  unfold eW;rw[if_neg h1,if_pos (Pv h0 h1)]
def Sx:Spec:=bX fun l=>match l with
 |[.rat q n]=>some (aK (.int .i64 (eW q)) [n<2^44])
 |_=>none
theorem akV:∀K args pre r,Sx K args pre=some r->aE P vC K args pre r:=by
 refine cK fun K args r hk hs _=>?_
 split at hs
 ·simp only[ay]at hs
  subst hs
  exact fun need=>IM need K [] trivial
 ·simp at hs
theorem MW {q:Rat} {n:Nat} (h:Sz q n):bG (.agg [.bool (decide (q<0)),.mag q.num.natAbs,.mag (if q.den=1 then 0 else q.den)]) (.rat q n):=uj h rfl rfl rfl
theorem aaQ {q:Rat} {n:Nat} (hn:n<2^44) (K:Nat) (pre:aF):aE P DN K [.rat q n] pre (aK (.rat q n) []):=by
 refine jn fun⟨hs1,_⟩=>?_
 have hs1:Sz q n:=hs1
 obtain⟨a1,a2,a3⟩:=Sz.jz hs1 hn
 refine cj hT nk hm aje rfl aX rfl 60 aiq (fun _=>?_) K pre
 simp only[ah.all,az]
 exact⟨⟨aa,aa,a1,aa,a3,aa⟩,aa,MW hs1⟩
def Nc:Spec:=bX fun l=>match l with
 |[.rat q n]=>some (aK (.rat q n) [n<2^44])
 |_=>none
theorem ab9:∀K args pre r,Nc K args pre=some r->aE P DN K args pre r:=by
 refine cK fun K args r hk hs _=>?_
 split at hs
 ·simp only[ay]at hs
  subst hs
  exact fun need=>aaQ need K [] trivial
 ·simp at hs
theorem VJ {n:Int} (h1:-2^63<=n) (h2:n<2^63) (K:Nat) (pre:aF):aE P BH K [.int .i64 n] pre (aK (.mag n.natAbs) []):=by
 refine cj hT nk hm abU rfl aX rfl 60 Y5 (fun _=>?_) K pre
 simp only[ah.all,az,beq_iff_eq,beq_eq_false_iff_ne,ne_eq]
 refine⟨fun hb=>⟨aa,dF ?_⟩,fun hb=>?_⟩
 ·subst hb;rfl
 ·have e:IntKind.i64.wrap (0-n)=-n:=by rw[wrap_i64 aa aa];omega
  rw[e]
  have e2 : IntKind.u64.wrap (if n < -n then -n else n) = ((n.natAbs : Nat) : Int) := by
   rw[cu (by split<;>omega) (by split<;>omega)]
   split<;>omega
  rw[e2]
  refine⟨⟨aa,aa⟩,dF (by rw[aW])⟩
def M8:Spec:=bX fun l=>match l with
 |[.int .i64 n]=>some (aK (.mag n.natAbs) [-2^63<=n,n<2^63])
 |_=>none
theorem abT:∀K args pre r,M8 K args pre=some r->aE P BH K args pre r:=by
 refine cK fun K args r hk hs _=>?_
 split at hs
 ·simp only[ay]at hs
  subst hs
  exact fun need=>VJ need.1 need.2 K [] trivial
 ·simp at hs
def HW:Spec:=bX fun l=>match l with
 |[.bool b,x,y]=>match je x,je y with
  |some N,some D=>some (aK (.rat (sQ b N D) (cS (sQ b N D))) [nl N<2^40,nl D<2^40])
  |_,_=>none
 |_=>none
theorem LH:∀K args pre r,HW K args pre=some r->aE P Ak K args pre r:=by
 refine cK fun K args r hk hs _=>?_
 split at hs
 ·split at hs
  ·rename_i N D h1 h2
   simp only[ay]at hs
   subst hs
   exact fun need=>gD (VM need.1 need.2 K []) hk ⟨.refl _,lW h1,lW h2,trivial⟩ [] trivial
  ·simp at hs
 ·simp at hs
end Go.Am.B
