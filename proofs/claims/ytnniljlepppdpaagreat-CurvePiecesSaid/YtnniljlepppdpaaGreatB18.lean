/- rational.den, parts, Same, Sign, copied, size: their contracts. -/
import Derived.Test.YtnniljlepppdpaaGreatB17
set_option linter.unusedVariables false
namespace Go.Am.B
open Go Go.Am.N AV
theorem ZC {q:Rat} {n:Nat} (K:Nat) (pre:aE):aD P wv K [.rat q n] pre (aL (.mag q.den) []):=by
 refine bW hT mX hm ag9 rfl aW rfl 60 ZM (fun _=>?_) K pre
 simp only[ag.all,aA,beq_iff_eq,beq_eq_false_iff_ne,ne_eq]
 refine⟨aa,fun hb=>dD ?_,fun hb=>⟨aa,dD ?_⟩⟩
 ·have h0:=q.den_nz
  have:(if q.den=1 then 0 else q.den)=0:=ja.1 aa
  split at this
  ·rename_i h;rw[h]
  ·omega
 ·split
  ·rename_i h;rw[if_pos h]at hb;exact absurd (by decide) hb
  ·rfl
def Ff:Spec:=bM fun l=>match l with
 |[.rat q _]=>some (aL (.mag q.den) [])
 |_=>none
theorem MH:∀K args pre r,Ff K args pre=some r->aD P wv K args pre r:=by
 refine ct fun K args r hk hs _=>?_
 split at hs
 ·simp only[au]at hs
  subst hs
  exact ZC K []
 ·simp at hs
def dP (q:Rat):Bool:=decide (q.num.natAbs<4294967296)&&decide (q.den<4294967296)
abbrev uF (q:Rat):AV:=.tuple [.int .u64 (if dP q then q.num.natAbs else 0:Nat),.int .u64 (if dP q then q.den else 0:Nat),.bool (dP q)]
theorem uv {N:Nat}:nl N<=1↔N<4294967296:=dm
theorem WS {q:Rat} {n:Nat} (K:Nat) (pre:aE):aD P A7 K [.rat q n] pre (aL (uF q) []):=by
 refine bW hT mX hm acU rfl aW rfl 60 VM (fun _=>?_) K pre
 simp only[ag.all,aA,beq_iff_eq,beq_eq_false_iff_ne,ne_eq,bf,bt,Int.toNat_zero]
 have hd:=q.den_nz
 have no:¬(q.num.natAbs<4294967296/\q.den<4294967296)->er [.int .u64 0,.int .u64 0,.bool false] (uF q):=by
  intro h
  have:dP q=false:=by
   unfold dP
   by_cases h1:q.num.natAbs<4294967296
   ·simp[h1];omega
   ·simp[h1]
  unfold uF
  rw[this]
  exact⟨.refl _,.refl _,.refl _,trivial⟩
 have yes:∀{x:Int} {v:Bool},q.num.natAbs<4294967296/\q.den<4294967296->x=(q.den:Nat)->v=true->er [.int .u64 (q.num.natAbs:Nat),.int .u64 x,.bool v] (uF q):=by
  intro x v h hx hv
  have:dP q=true:=by unfold dP;simp[h]
  unfold uF
  rw[this]
  exact⟨.refl _,bJ hx,fR hv,trivial⟩
 have hden:∀{m:Nat},nl (if q.den=1 then 0 else q.den)<=m↔(q.den=1\/nl q.den<=m):=by
  intro m
  by_cases h:q.den=1
  ·simp[h];simp[nl]
  ·simp[h]
 refine⟨fun hb=>⟨⟨aa,hb⟩,fun _=>no ?_,fun h=>by simp at h⟩,fun hb=>⟨⟨aa,hb,aa⟩,fun hc=>no ?_,fun hc=>⟨aa,fun h1=>⟨⟨aa,aa,aa⟩,⟨aa,aa⟩,?_⟩,fun h1=>⟨⟨aa,aa⟩,yes ?_ ?_ rfl⟩⟩⟩⟩
 ·have:=uv (N:=q.num.natAbs);omega
 ·have h2:=of_decide_eq_true (gZ hc)
  have h3:=hden (m:=1)
  have h4:=uv (N:=q.den)
  omega
 ·have h2:=of_decide_eq_false (gZ hc)
  have hn1:q.den≠1:=fun h=>by rw[if_pos h]at h1;simp[nl]at h1
  rw[if_neg hn1]at h1 h2 ⊢
  have h4:=(uv (N:=q.den)).1 aa
  have h5:=(uv (N:=q.num.natAbs)).1 aa
  have hl:aC q.den 0=q.den:=by
   have:=fS (N:=q.den)
   rw[show nl q.den=1 by omega,val,val]at this
   simpa using this
  rw[hl,bZ aa aa]
  exact yes ⟨h5,h4⟩ rfl (by simp;omega)
 ·have h2:=of_decide_eq_false (gZ hc)
  have h3:=hden (m:=1)
  have h3':=hden (m:=0)
  have h4:=uv (N:=q.den)
  have h5:=uv (N:=q.num.natAbs)
  have h6:=gd (N:=q.den)
  omega
 ·have h2:=of_decide_eq_false (gZ hc)
  have h3:=hden (m:=0)
  have h6:=gd (N:=q.den)
  omega
def NV:Spec:=bM fun l=>match l with
 |[.rat q _]=>some (aL (uF q) [])
 |_=>none
theorem afR:∀K args pre r,NV K args pre=some r->aD P A7 K args pre r:=by
 refine ct fun K args r hk hs _=>?_
 split at hs
 ·simp only[au]at hs
  subst hs
  exact WS K []
 ·simp at hs
theorem qk {q r:Rat}:q=r↔(decide (q<0)=decide (r<0))/\q.num.natAbs=r.num.natAbs/\(if q.den=1 then 0 else q.den)=(if r.den=1 then 0 else r.den):=by
 constructor
 ·intro h;subst h;exact⟨rfl,rfl,rfl⟩
 ·rintro⟨h1,h2,h3⟩
  have hd:q.den=r.den:=by
   have:=q.den_nz
   have:=r.den_nz
   split at h3<;>split at h3<;>omega
  rw[<-kJ q,<-kJ r,h1,h2,hd]
theorem JM {q r:Rat} {n m:Nat} (hn:n<2^44) (hm':m<2^44) (K:Nat) (pre:aE):aD P gV K [.rat q n,.rat r m] pre (aL (.bool (decide (q=r))) []):=by
 refine jw fun⟨hs1,hs2,_⟩=>?_
 obtain⟨a1,a2,a3⟩:=Sz.jk hs1 hn
 obtain⟨b1,b2,b3⟩:=Sz.jk hs2 hm'
 refine bW hT mX hm Sy rfl aW rfl 60 WE (fun _=>?_) K pre
 simp only[ag.all,aA]
 refine⟨fun hb=>⟨fun hc=>⟨⟨aa,aa,hb,aa,aa,a1,b1,hc,aa,aa,a3,b3⟩,fR ?_⟩,fun hc=>⟨⟨aa,aa,hb,aa,aa,a1,b1,hc⟩,fR ?_⟩⟩,fun hb=>⟨fun h=>by simp at h,fun _=>⟨⟨aa,aa,hb,trivial⟩,fR ?_⟩⟩⟩
 ·have h1:=eq_of_beq hb
  have h2:=of_decide_eq_true (jq hc)
  rw[cond_true]
  exact decide_eq_decide.2 ⟨fun h=>qk.2 ⟨h1,h2,h⟩,fun h=>(qk.1 h).2.2⟩
 ·have h2:=of_decide_eq_false (jq hc)
  exact(decide_eq_false fun h=>h2 (qk.1 h).2.1).symm
 ·refine(decide_eq_false fun h=>?_).symm
  rw[(qk.1 h).1]at hb
  simp at hb
theorem oL {q:Rat}:q.num.natAbs=0↔q=0:=by rw[Int.natAbs_eq_zero,Rat.num_eq_zero]
theorem PX {q:Rat} (h:q≠0) (h2:¬q<0):0<q:=by
 rw[Rat.lt_iff]
 have h3:¬q.num<0:=fun h=>h2 (iN.2 h)
 have h4:q.num≠0:=fun h5=>h (Rat.num_eq_zero.1 h5)
 simp;omega
theorem Fw {q:Rat} {n:Nat} (hn:n<2^44) (K:Nat) (pre:aE):aD P uw K [.rat q n] pre (aL (.int .i64 (eP q)) []):=by
 refine jw fun⟨hs1,_⟩=>?_
 obtain⟨a1,a2,a3⟩:=Sz.jk hs1 hn
 refine bW hT mX hm ac5 rfl aW rfl 60 aja (fun _=>?_) K pre
 simp only[ag.all,aA,beq_iff_eq,beq_eq_false_iff_ne,ne_eq]
 refine⟨⟨aa,a1⟩,fun hb=>bJ ?_,fun hb=>⟨aa,fun hc=>bJ ?_,fun hc=>bJ ?_⟩⟩
 ·have h0:q=0:=oL.1 (EX.1 aa)
  subst h0
  rfl
 ·have:=of_decide_eq_true hc
  unfold eP;rw[if_pos this]
 ·have h1:=of_decide_eq_false hc
  have h0:q≠0:=fun h=>hb (by rw[h];rfl)
  unfold eP;rw[if_neg h1,if_pos (PX h0 h1)]
def Rd:Spec:=bM fun l=>match l with
 |[.rat q n]=>some (aL (.int .i64 (eP q)) [n<2^44])
 |_=>none
theorem ad6:∀K args pre r,Rd K args pre=some r->aD P uw K args pre r:=by
 refine ct fun K args r hk hs _=>?_
 split at hs
 ·simp only[au]at hs
  subst hs
  exact fun need=>Fw need K [] trivial
 ·simp at hs
theorem JF {q:Rat} {n:Nat} (h:Sz q n):bD (.agg [.bool (decide (q<0)),.mag q.num.natAbs,.mag (if q.den=1 then 0 else q.den)]) (.rat q n):=rE h rfl rfl rfl
theorem XE {q:Rat} {n:Nat} (hn:n<2^44) (K:Nat) (pre:aE):aD P Ed K [.rat q n] pre (aL (.rat q n) []):=by
 refine jw fun⟨hs1,_⟩=>?_
 have hs1:Sz q n:=hs1
 obtain⟨a1,a2,a3⟩:=Sz.jk hs1 hn
 refine bW hT mX hm TZ rfl aW rfl 60 S2 (fun _=>?_) K pre
 simp only[ag.all,aA]
 exact⟨⟨aa,aa,a1,aa,a3,aa⟩,aa,JF hs1⟩
def Oq:Spec:=bM fun l=>match l with
 |[.rat q n]=>some (aL (.rat q n) [n<2^44])
 |_=>none
theorem acH:∀K args pre r,Oq K args pre=some r->aD P Ed K args pre r:=by
 refine ct fun K args r hk hs _=>?_
 split at hs
 ·simp only[au]at hs
  subst hs
  exact fun need=>XE need K [] trivial
 ·simp at hs
theorem abA {n:Int} (h1:-2^63<=n) (h2:n<2^63) (K:Nat) (pre:aE):aD P Co K [.int .i64 n] pre (aL (.mag n.natAbs) []):=by
 refine bW hT mX hm Xn rfl aW rfl 60 Vr (fun _=>?_) K pre
 simp only[ag.all,aA,beq_iff_eq,beq_eq_false_iff_ne,ne_eq]
 refine⟨fun hb=>⟨aa,dD ?_⟩,fun hb=>?_⟩
 ·subst hb;rfl
 ·have e:IntKind.i64.wrap (0-n)=-n:=by rw[wrap_i64 aa aa];omega
  rw[e]
  have e2 : IntKind.u64.wrap (if n < -n then -n else n) = ((n.natAbs : Nat) : Int) := by
   rw[bZ (by split<;>omega) (by split<;>omega)]
   split<;>omega
  rw[e2]
  refine⟨⟨aa,aa⟩,dD (by rw[aX])⟩
def PG:Spec:=bM fun l=>match l with
 |[.int .i64 n]=>some (aL (.mag n.natAbs) [-2^63<=n,n<2^63])
 |_=>none
theorem aeS:∀K args pre r,PG K args pre=some r->aD P Co K args pre r:=by
 refine ct fun K args r hk hs _=>?_
 split at hs
 ·simp only[au]at hs
  subst hs
  exact fun need=>abA need.1 need.2 K [] trivial
 ·simp at hs
def Gv:Spec:=bM fun l=>match l with
 |[.bool b,x,y]=>match iV x,iV y with
  |some N,some D=>some (aL (.rat (sQ b N D) (cK (sQ b N D))) [nl N<2^40,nl D<2^40])
  |_,_=>none
 |_=>none
theorem J2:∀K args pre r,Gv K args pre=some r->aD P zk K args pre r:=by
 refine ct fun K args r hk hs _=>?_
 split at hs
 ·split at hs
  ·rename_i N D h1 h2
   simp only[au]at hs
   subst hs
   exact fun need=>gv (TQ need.1 need.2 K []) hk ⟨.refl _,lQ h1,lQ h2,trivial⟩ [] trivial
  ·simp at hs
 ·simp at hs
end Go.Am.B
