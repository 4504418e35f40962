/- rational.den, parts, Same, Sign, copied, size: their contracts. -/
import Derived.Test.YtgfjdngnneoeoaaGreatB17
set_option linter.unusedVariables false
namespace Go.Am.B
open Go Go.Am.N AV
theorem afb {q:Rat} {n:Nat} (K:Nat) (pre:aD):aN P 88 K [.rat q n] pre (aH (.mag q.den) []):=by
 refine bM hT mX hm ago rfl aW rfl 60 adz (fun _=>?_) K pre
 simp only[ag.all,au,beq_iff_eq,beq_eq_false_iff_ne,ne_eq]
 refine⟨aa,fun hb=>dX ?_,fun hb=>⟨aa,dX ?_⟩⟩
 ·have h0:=q.den_nz
  have:(if q.den=1 then 0 else q.den)=0:=j9.1 aa
  split at this
  ·rename_i h;rw[h]
  ·omega
 ·split
  ·rename_i h;rw[if_pos h]at hb;exact absurd (by decide) hb
  ·rfl
def OF:Spec:=bX fun l=>match l with
 |[.rat q _]=>some (aH (.mag q.den) [])
 |_=>none
theorem PX:bf P OF 88:=by
 refine cM fun K args r hk hs _=>?_
 split at hs
 ·simp only[ax]at hs
  subst hs
  exact afb K []
 ·simp at hs
def eG (q:Rat):Bool:=decide (q.num.natAbs<4294967296)&&decide (q.den<4294967296)
abbrev su (q:Rat):AV:=.tuple [.int .u64 (if eG q then q.num.natAbs else 0:Nat),.int .u64 (if eG q then q.den else 0:Nat),.bool (eG q)]
theorem ug {N:Nat}:nl N<=1↔N<4294967296:=dL
theorem Ve {q:Rat} {n:Nat} (K:Nat) (pre:aD):aN P 85 K [.rat q n] pre (aH (su q) []):=by
 refine bM hT mX hm Q7 rfl aW rfl 60 Vx (fun _=>?_) K pre
 simp only[ag.all,au,beq_iff_eq,beq_eq_false_iff_ne,ne_eq,bz,bG,Int.toNat_zero]
 have hd:=q.den_nz
 have no:¬(q.num.natAbs<4294967296/\q.den<4294967296)->fA [.int .u64 0,.int .u64 0,.bool false] (su q):=by
  intro h
  have:eG q=false:=by
   unfold eG
   by_cases h1:q.num.natAbs<4294967296
   ·simp[h1];omega
   ·simp[h1]
  unfold su
  rw[this]
  exact⟨.refl _,.refl _,.refl _,trivial⟩
 have yes:∀{x:Int} {v:Bool},q.num.natAbs<4294967296/\q.den<4294967296->x=(q.den:Nat)->v=true->fA [.int .u64 (q.num.natAbs:Nat),.int .u64 x,.bool v] (su q):=by
  intro x v h hx hv
  have:eG q=true:=by unfold eG;simp[h]
  unfold su
  rw[this]
  exact⟨.refl _,bW hx,gZ hv,trivial⟩
 have hden:∀{m:Nat},nl (if q.den=1 then 0 else q.den)<=m↔(q.den=1\/nl q.den<=m):=by
  intro m
  by_cases h:q.den=1
  ·simp[h];simp[nl]
  ·simp[h]
 refine⟨fun hb=>⟨⟨aa,hb⟩,fun _=>no ?_,fun h=>by simp at h⟩,fun hb=>⟨⟨aa,hb,aa⟩,fun hc=>no ?_,fun hc=>⟨aa,fun h1=>⟨⟨aa,aa,aa⟩,⟨aa,aa⟩,?_⟩,fun h1=>⟨⟨aa,aa⟩,yes ?_ ?_ rfl⟩⟩⟩⟩
 ·have:=ug (N:=q.num.natAbs);omega
 ·have h2:=of_decide_eq_true (iM hc)
  have h3:=hden (m:=1)
  have h4:=ug (N:=q.den)
  omega
 ·have h2:=of_decide_eq_false (iM hc)
  have hn1:q.den≠1:=fun h=>by rw[if_pos h]at h1;simp[nl]at h1
  rw[if_neg hn1]at h1 h2 ⊢
  have h4:=(ug (N:=q.den)).1 aa
  have h5:=(ug (N:=q.num.natAbs)).1 aa
  have hl:aB q.den 0=q.den:=by
   have:=gq (N:=q.den)
   rw[show nl q.den=1 by omega,val,val]at this
   simpa using this
  rw[hl,cw aa aa]
  exact yes ⟨h5,h4⟩ rfl (by simp;omega)
 ·have h2:=of_decide_eq_false (iM hc)
  have h3:=hden (m:=1)
  have h3':=hden (m:=0)
  have h4:=ug (N:=q.den)
  have h5:=ug (N:=q.num.natAbs)
  have h6:=gE (N:=q.den)
  omega
 ·have h2:=of_decide_eq_false (iM hc)
  have h3:=hden (m:=0)
  have h6:=gE (N:=q.den)
  omega
def K2:Spec:=bX fun l=>match l with
 |[.rat q _]=>some (aH (su q) [])
 |_=>none
theorem ae0:bf P K2 85:=by
 refine cM fun K args r hk hs _=>?_
 split at hs
 ·simp only[ax]at hs
  subst hs
  exact Ve K []
 ·simp at hs
theorem pS {q r:Rat}:q=r↔(decide (q<0)=decide (r<0))/\q.num.natAbs=r.num.natAbs/\(if q.den=1 then 0 else q.den)=(if r.den=1 then 0 else r.den):=by
 constructor
 ·intro h;subst h;exact⟨rfl,rfl,rfl⟩
 ·rintro⟨h1,h2,h3⟩
  have hd:q.den=r.den:=by
   have:=q.den_nz
   have:=r.den_nz
   split at h3<;>split at h3<;>omega
  rw[<-kJ q,<-kJ r,h1,h2,hd]
theorem C1 {q r:Rat} {n m:Nat} (hn:n<2^44) (hm':m<2^44) (K:Nat) (pre:aD):aN P 35 K [.rat q n,.rat r m] pre (aH (.bool (decide (q=r))) []):=by
 refine kP fun⟨hs1,hs2,_⟩=>?_
 obtain⟨a1,a2,a3⟩:=Sz.kq hs1 hn
 obtain⟨b1,b2,b3⟩:=Sz.kq hs2 hm'
 refine bM hT mX hm Te rfl aW rfl 60 YV (fun _=>?_) K pre
 simp only[ag.all,au]
 refine⟨fun hb=>⟨fun hc=>⟨⟨aa,aa,hb,aa,aa,a1,b1,hc,aa,aa,a3,b3⟩,gZ ?_⟩,fun hc=>⟨⟨aa,aa,hb,aa,aa,a1,b1,hc⟩,gZ ?_⟩⟩,fun hb=>⟨fun h=>by simp at h,fun _=>⟨⟨aa,aa,hb,trivial⟩,gZ ?_⟩⟩⟩
 ·have h1:=eq_of_beq hb
  have h2:=of_decide_eq_true (jC hc)
  rw[cond_true]
  exact decide_eq_decide.2 ⟨fun h=>pS.2 ⟨h1,h2,h⟩,fun h=>(pS.1 h).2.2⟩
 ·have h2:=of_decide_eq_false (jC hc)
  exact(decide_eq_false fun h=>h2 (pS.1 h).2.1).symm
 ·refine(decide_eq_false fun h=>?_).symm
  rw[(pS.1 h).1]at hb
  simp at hb
theorem nT {q:Rat}:q.num.natAbs=0↔q=0:=by rw[Int.natAbs_eq_zero,Rat.num_eq_zero]
theorem Hv {q:Rat} (h:q≠0) (h2:¬q<0):0<q:=by
 rw[Rat.lt_iff]
 have h3:¬q.num<0:=fun h=>h2 (jv.2 h)
 have h4:q.num≠0:=fun h5=>h (Rat.num_eq_zero.1 h5)
 simp;omega
theorem Br {q:Rat} {n:Nat} (hn:n<2^44) (K:Nat) (pre:aD):aN P 84 K [.rat q n] pre (aH (.int .i64 (eO q)) []):=by
 refine kP fun⟨hs1,_⟩=>?_
 obtain⟨a1,a2,a3⟩:=Sz.kq hs1 hn
 refine bM hT mX hm aib rfl aW rfl 60 afN (fun _=>?_) K pre
 simp only[ag.all,au,beq_iff_eq,beq_eq_false_iff_ne,ne_eq]
 refine⟨⟨aa,a1⟩,fun hb=>bW ?_,fun hb=>⟨aa,fun hc=>bW ?_,fun hc=>bW ?_⟩⟩
 ·have h0:q=0:=nT.1 (DU.1 aa)
  subst h0
  rfl
 ·have:=of_decide_eq_true hc
  unfold eO;rw[if_pos this]
 ·have h1:=of_decide_eq_false hc
  have h0:q≠0:=fun h=>hb (by rw[h];rfl)
  unfold eO;rw[if_neg h1,if_pos (Hv h0 h1)]
def N7:Spec:=bX fun l=>match l with
 |[.rat q n]=>some (aH (.int .i64 (eO q)) [n<2^44])
 |_=>none
theorem OX:bf P N7 84:=by
 refine cM fun K args r hk hs _=>?_
 split at hs
 ·simp only[ax]at hs
  subst hs
  exact fun need=>Br need K [] trivial
 ·simp at hs
theorem Fg {q:Rat} {n:Nat} (h:Sz q n):bp (.agg [.bool (decide (q<0)),.mag q.num.natAbs,.mag (if q.den=1 then 0 else q.den)]) (.rat q n):=sR h rfl rfl rfl
theorem W8 {q:Rat} {n:Nat} (hn:n<2^44) (K:Nat) (pre:aD):aN P 128 K [.rat q n] pre (aH (.rat q n) []):=by
 refine kP fun⟨hs1,_⟩=>?_
 have hs1:Sz q n:=hs1
 obtain⟨a1,a2,a3⟩:=Sz.kq hs1 hn
 refine bM hT mX hm agr rfl aW rfl 60 Y3 (fun _=>?_) K pre
 simp only[ag.all,au]
 exact⟨⟨aa,aa,a1,aa,a3,aa⟩,aa,Fg hs1⟩
def NZ:Spec:=bX fun l=>match l with
 |[.rat q n]=>some (aH (.rat q n) [n<2^44])
 |_=>none
theorem aec:bf P NZ 128:=by
 refine cM fun K args r hk hs _=>?_
 split at hs
 ·simp only[ax]at hs
  subst hs
  exact fun need=>W8 need K [] trivial
 ·simp at hs
theorem TF {n:Int} (h1:-2^63<=n) (h2:n<2^63) (K:Nat) (pre:aD):aN P 81 K [.int .i64 n] pre (aH (.mag n.natAbs) []):=by
 refine bM hT mX hm Xa rfl aW rfl 60 P7 (fun _=>?_) K pre
 simp only[ag.all,au,beq_iff_eq,beq_eq_false_iff_ne,ne_eq]
 refine⟨fun hb=>⟨aa,dX ?_⟩,fun hb=>?_⟩
 ·subst hb;rfl
 ·have e:IntKind.i64.wrap (0-n)=-n:=by rw[wrap_i64 aa aa];omega
  rw[e]
  have e2 : IntKind.u64.wrap (if n < -n then -n else n) = ((n.natAbs : Nat) : Int) := by
   rw[cw (by split<;>omega) (by split<;>omega)]
   split<;>omega
  rw[e2]
  refine⟨⟨aa,aa⟩,dX (by rw[br])⟩
def GX:Spec:=bX fun l=>match l with
 |[.int .i64 n]=>some (aH (.mag n.natAbs) [-2^63<=n,n<2^63])
 |_=>none
theorem Yk:bf P GX 81:=by
 refine cM fun K args r hk hs _=>?_
 split at hs
 ·simp only[ax]at hs
  subst hs
  exact fun need=>TF need.1 need.2 K [] trivial
 ·simp at hs
def A6:Spec:=bX fun l=>match l with
 |[.bool b,x,y]=>match jr x,jr y with
  |some N,some D=>some (aH (.rat (sQ b N D) (dr (sQ b N D))) [nl N<2^40,nl D<2^40])
  |_,_=>none
 |_=>none
theorem GF:bf P A6 80:=by
 refine cM fun K args r hk hs _=>?_
 split at hs
 ·split at hs
  ·rename_i N D h1 h2
   simp only[ax]at hs
   subst hs
   exact fun need=>eR (Z2 need.1 need.2 K []) hk ⟨.refl _,lJ h1,lJ h2,trivial⟩ [] trivial
  ·simp at hs
 ·simp at hs
end Go.Am.B
