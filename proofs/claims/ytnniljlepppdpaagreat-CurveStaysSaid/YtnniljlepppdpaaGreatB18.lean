/- rational.den, parts, Same, Sign, copied, size: their contracts. -/
import Derived.Test.YtnniljlepppdpaaGreatB17
set_option linter.unusedVariables false
namespace Go.Am.B
open Go Go.Am.N AV
theorem ain {q:Rat} {n:Nat} (K:Nat) (pre:aF):aD P yB K [.rat q n] pre (aK (.mag q.den) []):=by
 refine bY hT nF hm ag7 rfl aW rfl 60 aix (fun _=>?_) K pre
 simp only[ah.all,aA,beq_iff_eq,beq_eq_false_iff_ne,ne_eq]
 refine⟨aa,fun hb=>dL ?_,fun hb=>⟨aa,dL ?_⟩⟩
 ·have h0:=q.den_nz
  have:(if q.den=1 then 0 else q.den)=0:=jK.1 aa
  split at this
  ·rename_i h;rw[h]
  ·omega
 ·split
  ·rename_i h;rw[if_pos h]at hb;exact absurd (by decide) hb
  ·rfl
def Ie:Spec:=bU fun l=>match l with
 |[.rat q _]=>some (aK (.mag q.den) [])
 |_=>none
theorem Tw:∀K args pre r,Ie K args pre=some r->aD P yB K args pre r:=by
 refine cB fun K args r hk hs _=>?_
 split at hs
 ·simp only[ax]at hs
  subst hs
  exact ain K []
 ·simp at hs
def eE (q:Rat):Bool:=decide (q.num.natAbs<4294967296)&&decide (q.den<4294967296)
abbrev wo (q:Rat):AV:=.tuple [.int .u64 (if eE q then q.num.natAbs else 0:Nat),.int .u64 (if eE q then q.den else 0:Nat),.bool (eE q)]
theorem wN {N:Nat}:nl N<=1↔N<4294967296:=dB
theorem ajs {q:Rat} {n:Nat} (K:Nat) (pre:aF):aD P Ed K [.rat q n] pre (aK (wo q) []):=by
 refine bY hT nF hm Vd rfl aW rfl 60 XK (fun _=>?_) K pre
 simp only[ah.all,aA,beq_iff_eq,beq_eq_false_iff_ne,ne_eq,bh,bz,Int.toNat_zero]
 have hd:=q.den_nz
 have no:¬(q.num.natAbs<4294967296/\q.den<4294967296)->en [.int .u64 0,.int .u64 0,.bool false] (wo q):=by
  intro h
  have:eE q=false:=by
   unfold eE
   by_cases h1:q.num.natAbs<4294967296
   ·simp[h1];omega
   ·simp[h1]
  unfold wo
  rw[this]
  exact⟨.refl _,.refl _,.refl _,trivial⟩
 have yes:∀{x:Int} {v:Bool},q.num.natAbs<4294967296/\q.den<4294967296->x=(q.den:Nat)->v=true->en [.int .u64 (q.num.natAbs:Nat),.int .u64 x,.bool v] (wo q):=by
  intro x v h hx hv
  have:eE q=true:=by unfold eE;simp[h]
  unfold wo
  rw[this]
  exact⟨.refl _,bN hx,gA hv,trivial⟩
 have hden:∀{m:Nat},nl (if q.den=1 then 0 else q.den)<=m↔(q.den=1\/nl q.den<=m):=by
  intro m
  by_cases h:q.den=1
  ·simp[h];simp[nl]
  ·simp[h]
 refine⟨fun hb=>⟨⟨aa,hb⟩,fun _=>no ?_,fun h=>by simp at h⟩,fun hb=>⟨⟨aa,hb,aa⟩,fun hc=>no ?_,fun hc=>⟨aa,fun h1=>⟨⟨aa,aa,aa⟩,⟨aa,aa⟩,?_⟩,fun h1=>⟨⟨aa,aa⟩,yes ?_ ?_ rfl⟩⟩⟩⟩
 ·have:=wN (N:=q.num.natAbs);omega
 ·have h2:=of_decide_eq_true (iQ hc)
  have h3:=hden (m:=1)
  have h4:=wN (N:=q.den)
  omega
 ·have h2:=of_decide_eq_false (iQ hc)
  have hn1:q.den≠1:=fun h=>by rw[if_pos h]at h1;simp[nl]at h1
  rw[if_neg hn1]at h1 h2 ⊢
  have h4:=(wN (N:=q.den)).1 aa
  have h5:=(wN (N:=q.num.natAbs)).1 aa
  have hl:aC q.den 0=q.den:=by
   have:=gu (N:=q.den)
   rw[show nl q.den=1 by omega,val,val]at this
   simpa using this
  rw[hl,cr aa aa]
  exact yes ⟨h5,h4⟩ rfl (by simp;omega)
 ·have h2:=of_decide_eq_false (iQ hc)
  have h3:=hden (m:=1)
  have h3':=hden (m:=0)
  have h4:=wN (N:=q.den)
  have h5:=wN (N:=q.num.natAbs)
  have h6:=gG (N:=q.den)
  omega
 ·have h2:=of_decide_eq_false (iQ hc)
  have h3:=hden (m:=0)
  have h6:=gG (N:=q.den)
  omega
def MB:Spec:=bU fun l=>match l with
 |[.rat q _]=>some (aK (wo q) [])
 |_=>none
theorem Uo:∀K args pre r,MB K args pre=some r->aD P Ed K args pre r:=by
 refine cB fun K args r hk hs _=>?_
 split at hs
 ·simp only[ax]at hs
  subst hs
  exact ajs K []
 ·simp at hs
theorem qa {q r:Rat}:q=r↔(decide (q<0)=decide (r<0))/\q.num.natAbs=r.num.natAbs/\(if q.den=1 then 0 else q.den)=(if r.den=1 then 0 else r.den):=by
 constructor
 ·intro h;subst h;exact⟨rfl,rfl,rfl⟩
 ·rintro⟨h1,h2,h3⟩
  have hd:q.den=r.den:=by
   have:=q.den_nz
   have:=r.den_nz
   split at h3<;>split at h3<;>omega
  rw[<-lS q,<-lS r,h1,h2,hd]
theorem NX {q r:Rat} {n m:Nat} (hn:n<2^44) (hm':m<2^44) (K:Nat) (pre:aF):aD P gp K [.rat q n,.rat r m] pre (aK (.bool (decide (q=r))) []):=by
 refine jL fun⟨hs1,hs2,_⟩=>?_
 obtain⟨a1,a2,a3⟩:=Sz.jX hs1 hn
 obtain⟨b1,b2,b3⟩:=Sz.jX hs2 hm'
 refine bY hT nF hm afR rfl aW rfl 60 aj4 (fun _=>?_) K pre
 simp only[ah.all,aA]
 refine⟨fun hb=>⟨fun hc=>⟨⟨aa,aa,hb,aa,aa,a1,b1,hc,aa,aa,a3,b3⟩,gA ?_⟩,fun hc=>⟨⟨aa,aa,hb,aa,aa,a1,b1,hc⟩,gA ?_⟩⟩,fun hb=>⟨fun h=>by simp at h,fun _=>⟨⟨aa,aa,hb,trivial⟩,gA ?_⟩⟩⟩
 ·have h1:=eq_of_beq hb
  have h2:=of_decide_eq_true (jv hc)
  rw[cond_true]
  exact decide_eq_decide.2 ⟨fun h=>qa.2 ⟨h1,h2,h⟩,fun h=>(qa.1 h).2.2⟩
 ·have h2:=of_decide_eq_false (jv hc)
  exact(decide_eq_false fun h=>h2 (qa.1 h).2.1).symm
 ·refine(decide_eq_false fun h=>?_).symm
  rw[(qa.1 h).1]at hb
  simp at hb
theorem oz {q:Rat}:q.num.natAbs=0↔q=0:=by rw[Int.natAbs_eq_zero,Rat.num_eq_zero]
theorem TB {q:Rat} (h:q≠0) (h2:¬q<0):0<q:=by
 rw[Rat.lt_iff]
 have h3:¬q.num<0:=fun h=>h2 (jt.2 h)
 have h4:q.num≠0:=fun h5=>h (Rat.num_eq_zero.1 h5)
 simp;omega
theorem Gs {q:Rat} {n:Nat} (hn:n<2^44) (K:Nat) (pre:aF):aD P vk K [.rat q n] pre (aK (.int .i64 (fy q)) []):=by
 refine jL fun⟨hs1,_⟩=>?_
 obtain⟨a1,a2,a3⟩:=Sz.jX hs1 hn
 refine bY hT nF hm al9 rfl aW rfl 60 aaO (fun _=>?_) K pre
 simp only[ah.all,aA,beq_iff_eq,beq_eq_false_iff_ne,ne_eq]
 refine⟨⟨aa,a1⟩,fun hb=>bN ?_,fun hb=>⟨aa,fun hc=>bN ?_,fun hc=>bN ?_⟩⟩
 ·have h0:q=0:=oz.1 (Jm.1 aa)
  subst h0
  rfl
 ·have:=of_decide_eq_true hc
  unfold fy;rw[if_pos this]
 ·have h1:=of_decide_eq_false hc
  have h0:q≠0:=fun h=>hb (by rw[h];rfl)
  unfold fy;rw[if_neg h1,if_pos (TB h0 h1)]
def Qh:Spec:=bU fun l=>match l with
 |[.rat q n]=>some (aK (.int .i64 (fy q)) [n<2^44])
 |_=>none
theorem Uj:∀K args pre r,Qh K args pre=some r->aD P vk K args pre r:=by
 refine cB fun K args r hk hs _=>?_
 split at hs
 ·simp only[ax]at hs
  subst hs
  exact fun need=>Gs need K [] trivial
 ·simp at hs
theorem Ns {q:Rat} {n:Nat} (h:Sz q n):bF (.agg [.bool (decide (q<0)),.mag q.num.natAbs,.mag (if q.den=1 then 0 else q.den)]) (.rat q n):=sj h rfl rfl rfl
theorem X8 {q:Rat} {n:Nat} (hn:n<2^44) (K:Nat) (pre:aF):aD P C5 K [.rat q n] pre (aK (.rat q n) []):=by
 refine jL fun⟨hs1,_⟩=>?_
 have hs1:Sz q n:=hs1
 obtain⟨a1,a2,a3⟩:=Sz.jX hs1 hn
 refine bY hT nF hm alu rfl aW rfl 60 aba (fun _=>?_) K pre
 simp only[ah.all,aA]
 exact⟨⟨aa,aa,a1,aa,a3,aa⟩,aa,Ns hs1⟩
def PW:Spec:=bU fun l=>match l with
 |[.rat q n]=>some (aK (.rat q n) [n<2^44])
 |_=>none
theorem ahQ:∀K args pre r,PW K args pre=some r->aD P C5 K args pre r:=by
 refine cB fun K args r hk hs _=>?_
 split at hs
 ·simp only[ax]at hs
  subst hs
  exact fun need=>X8 need K [] trivial
 ·simp at hs
theorem alJ {n:Int} (h1:-2^63<=n) (h2:n<2^63) (K:Nat) (pre:aF):aD P EF K [.int .i64 n] pre (aK (.mag n.natAbs) []):=by
 refine bY hT nF hm adm rfl aW rfl 60 Z2 (fun _=>?_) K pre
 simp only[ah.all,aA,beq_iff_eq,beq_eq_false_iff_ne,ne_eq]
 refine⟨fun hb=>⟨aa,dL ?_⟩,fun hb=>?_⟩
 ·subst hb;rfl
 ·have e:IntKind.i64.wrap (0-n)=-n:=by rw[wrap_i64 aa aa];omega
  rw[e]
  have e2 : IntKind.u64.wrap (if n < -n then -n else n) = ((n.natAbs : Nat) : Int) := by
   rw[cr (by split<;>omega) (by split<;>omega)]
   split<;>omega
  rw[e2]
  refine⟨⟨aa,aa⟩,dL (by rw[aZ])⟩
def Qq:Spec:=bU fun l=>match l with
 |[.int .i64 n]=>some (aK (.mag n.natAbs) [-2^63<=n,n<2^63])
 |_=>none
theorem Y6:∀K args pre r,Qq K args pre=some r->aD P EF K args pre r:=by
 refine cB fun K args r hk hs _=>?_
 split at hs
 ·simp only[ax]at hs
  subst hs
  exact fun need=>alJ need.1 need.2 K [] trivial
 ·simp at hs
def HI:Spec:=bU fun l=>match l with
 |[.bool b,x,y]=>match jr x,jr y with
  |some N,some D=>some (aK (.rat (sQ b N D) (cR (sQ b N D))) [nl N<2^40,nl D<2^40])
  |_,_=>none
 |_=>none
theorem Tr:∀K args pre r,HI K args pre=some r->aD P Ae K args pre r:=by
 refine cB fun K args r hk hs _=>?_
 split at hs
 ·split at hs
  ·rename_i N D h1 h2
   simp only[ax]at hs
   subst hs
   exact fun need=>gR (adz need.1 need.2 K []) hk ⟨.refl _,mq h1,mq h2,trivial⟩ [] trivial
  ·simp at hs
 ·simp at hs
end Go.Am.B
