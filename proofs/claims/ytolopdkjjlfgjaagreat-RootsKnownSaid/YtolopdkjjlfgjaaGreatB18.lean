/- rational.den, parts, Same, Sign, copied, size: their contracts. -/
import Derived.Test.YtolopdkjjlfgjaaGreatB17
set_option linter.unusedVariables false
namespace Go.Am.B
open Go Go.Am.N AV
theorem Yj {q:Rat} {n:Nat} (K:Nat) (pre:aG):aY P 120 K [.rat q n] pre (aT (.mag q.den) []):=by
 refine cB hT oT hm Rh rfl br rfl 60 UJ (fun _=>?_) K pre
 simp only[af.all,aF,beq_iff_eq,beq_eq_false_iff_ne,ne_eq]
 refine⟨aa,fun hb=>fo ?_,fun hb=>⟨aa,fo ?_⟩⟩
 ·have h0:=q.den_nz
  have:(if q.den=1 then 0 else q.den)=0:=kA.1 aa
  split at this
  ·rename_i h;rw[h]
  ·omega
 ·split
  ·rename_i h;rw[if_pos h]at hb;exact absurd (by decide) hb
  ·rfl
def D7:Spec:=cw fun l=>match l with
 |[.rat q _]=>some (aT (.mag q.den) [])
 |_=>none
theorem JA:bF P D7 120:=by
 refine cY fun K args r hk hs _=>?_
 split at hs
 ·simp only[aB]at hs
  subst hs
  exact Yj K []
 ·simp at hs
def fB (q:Rat):Bool:=decide (q.num.natAbs<4294967296)&&decide (q.den<4294967296)
abbrev uo (q:Rat):AV:=.tuple [.int .u64 (if fB q then q.num.natAbs else 0:Nat),.int .u64 (if fB q then q.den else 0:Nat),.bool (fB q)]
theorem vG {N:Nat}:nl N<=1↔N<4294967296:=eo
theorem Z5 {q:Rat} {n:Nat} (K:Nat) (pre:aG):aY P 116 K [.rat q n] pre (aT (uo q) []):=by
 refine cB hT oT hm YI rfl br rfl 60 acX (fun _=>?_) K pre
 simp only[af.all,aF,beq_iff_eq,beq_eq_false_iff_ne,ne_eq,bI,bO,Int.toNat_zero]
 have hd:=q.den_nz
 have no:¬(q.num.natAbs<4294967296/\q.den<4294967296)->iW [.int .u64 0,.int .u64 0,.bool false] (uo q):=by
  intro h
  have:fB q=false:=by
   unfold fB
   by_cases h1:q.num.natAbs<4294967296
   ·simp[h1];omega
   ·simp[h1]
  unfold uo
  rw[this]
  exact⟨.refl _,.refl _,.refl _,trivial⟩
 have yes:∀{x:Int} {v:Bool},q.num.natAbs<4294967296/\q.den<4294967296->x=(q.den:Nat)->v=true->iW [.int .u64 (q.num.natAbs:Nat),.int .u64 x,.bool v] (uo q):=by
  intro x v h hx hv
  have:fB q=true:=by unfold fB;simp[h]
  unfold uo
  rw[this]
  exact⟨.refl _,cu hx,iV hv,trivial⟩
 have hden:∀{m:Nat},nl (if q.den=1 then 0 else q.den)<=m↔(q.den=1\/nl q.den<=m):=by
  intro m
  by_cases h:q.den=1
  ·simp[h];simp[nl]
  ·simp[h]
 refine⟨fun hb=>⟨⟨aa,hb⟩,fun _=>no ?_,fun h=>by simp at h⟩,fun hb=>⟨⟨aa,hb,aa⟩,fun hc=>no ?_,fun hc=>⟨aa,fun h1=>⟨⟨aa,aa,aa⟩,⟨aa,aa⟩,?_⟩,fun h1=>⟨⟨aa,aa⟩,yes ?_ ?_ rfl⟩⟩⟩⟩
 ·have:=vG (N:=q.num.natAbs);omega
 ·have h2:=of_decide_eq_true (jC hc)
  have h3:=hden (m:=1)
  have h4:=vG (N:=q.den)
  omega
 ·have h2:=of_decide_eq_false (jC hc)
  have hn1:q.den≠1:=fun h=>by rw[if_pos h]at h1;simp[nl]at h1
  rw[if_neg hn1]at h1 h2 ⊢
  have h4:=(vG (N:=q.den)).1 aa
  have h5:=(vG (N:=q.num.natAbs)).1 aa
  have hl:aE q.den 0=q.den:=by
   have:=iE (N:=q.den)
   rw[show nl q.den=1 by omega,val,val]at this
   simpa using this
  rw[hl,cG aa aa]
  exact yes ⟨h5,h4⟩ rfl (by simp;omega)
 ·have h2:=of_decide_eq_false (jC hc)
  have h3:=hden (m:=1)
  have h3':=hden (m:=0)
  have h4:=vG (N:=q.den)
  have h5:=vG (N:=q.num.natAbs)
  have h6:=iO (N:=q.den)
  omega
 ·have h2:=of_decide_eq_false (jC hc)
  have h3:=hden (m:=0)
  have h6:=iO (N:=q.den)
  omega
def Pt:Spec:=cw fun l=>match l with
 |[.rat q _]=>some (aT (uo q) [])
 |_=>none
theorem afD:bF P Pt 116:=by
 refine cY fun K args r hk hs _=>?_
 split at hs
 ·simp only[aB]at hs
  subst hs
  exact Z5 K []
 ·simp at hs
theorem qA {q r:Rat}:q=r↔(decide (q<0)=decide (r<0))/\q.num.natAbs=r.num.natAbs/\(if q.den=1 then 0 else q.den)=(if r.den=1 then 0 else r.den):=by
 constructor
 ·intro h;subst h;exact⟨rfl,rfl,rfl⟩
 ·rintro⟨h1,h2,h3⟩
  have hd:q.den=r.den:=by
   have:=q.den_nz
   have:=r.den_nz
   split at h3<;>split at h3<;>omega
  rw[<-mF q,<-mF r,h1,h2,hd]
theorem afc {q r:Rat} {n m:Nat} (hn:n<2^44) (hm':m<2^44) (K:Nat) (pre:aG):aY P 110 K [.rat q n,.rat r m] pre (aT (.bool (decide (q=r))) []):=by
 refine lX fun⟨hs1,hs2,_⟩=>?_
 obtain⟨a1,a2,a3⟩:=Sz.lD hs1 hn
 obtain⟨b1,b2,b3⟩:=Sz.lD hs2 hm'
 refine cB hT oT hm aeF rfl br rfl 60 acz (fun _=>?_) K pre
 simp only[af.all,aF]
 refine⟨fun hb=>⟨fun hc=>⟨⟨aa,aa,hb,aa,aa,a1,b1,hc,aa,aa,a3,b3⟩,iV ?_⟩,fun hc=>⟨⟨aa,aa,hb,aa,aa,a1,b1,hc⟩,iV ?_⟩⟩,fun hb=>⟨fun h=>by simp at h,fun _=>⟨⟨aa,aa,hb,trivial⟩,iV ?_⟩⟩⟩
 ·have h1:=eq_of_beq hb
  have h2:=of_decide_eq_true (kP hc)
  rw[cond_true]
  exact decide_eq_decide.2 ⟨fun h=>qA.2 ⟨h1,h2,h⟩,fun h=>(qA.1 h).2.2⟩
 ·have h2:=of_decide_eq_false (kP hc)
  exact(decide_eq_false fun h=>h2 (qA.1 h).2.1).symm
 ·refine(decide_eq_false fun h=>?_).symm
  rw[(qA.1 h).1]at hb
  simp at hb
theorem oS {q:Rat}:q.num.natAbs=0↔q=0:=by rw[Int.natAbs_eq_zero,Rat.num_eq_zero]
theorem Nt {q:Rat} (h:q≠0) (h2:¬q<0):0<q:=by
 rw[Rat.lt_iff]
 have h3:¬q.num<0:=fun h=>h2 (jX.2 h)
 have h4:q.num≠0:=fun h5=>h (Rat.num_eq_zero.1 h5)
 simp;omega
theorem NP {q:Rat} {n:Nat} (hn:n<2^44) (K:Nat) (pre:aG):aY P 65 K [.rat q n] pre (aT (.int .i64 (bR q)) []):=by
 refine lX fun⟨hs1,_⟩=>?_
 obtain⟨a1,a2,a3⟩:=Sz.lD hs1 hn
 refine cB hT oT hm aaI rfl br rfl 60 YY (fun _=>?_) K pre
 simp only[af.all,aF,beq_iff_eq,beq_eq_false_iff_ne,ne_eq]
 refine⟨⟨aa,a1⟩,fun hb=>cu ?_,fun hb=>⟨aa,fun hc=>cu ?_,fun hc=>cu ?_⟩⟩
 ·have h0:q=0:=oS.1 (Dg.1 aa)
  subst h0
  rfl
 ·have:=of_decide_eq_true hc
  unfold bR;rw[if_pos this]
 ·have h1:=of_decide_eq_false hc
  have h0:q≠0:=fun h=>hb (by rw[h];rfl)
  unfold bR;rw[if_neg h1,if_pos (Nt h0 h1)]
def KD:Spec:=cw fun l=>match l with
 |[.rat q n]=>some (aT (.int .i64 (bR q)) [n<2^44])
 |_=>none
theorem Td:bF P KD 65:=by
 refine cY fun K args r hk hs _=>?_
 split at hs
 ·simp only[aB]at hs
  subst hs
  exact fun need=>NP need K [] trivial
 ·simp at hs
theorem Mo {q:Rat} {n:Nat} (h:Sz q n):bg (.agg [.bool (decide (q<0)),.mag q.num.natAbs,.mag (if q.den=1 then 0 else q.den)]) (.rat q n):=sD h rfl rfl rfl
theorem aax {q:Rat} {n:Nat} (hn:n<2^44) (K:Nat) (pre:aG):aY P 166 K [.rat q n] pre (aT (.rat q n) []):=by
 refine lX fun⟨hs1,_⟩=>?_
 have hs1:Sz q n:=hs1
 obtain⟨a1,a2,a3⟩:=Sz.lD hs1 hn
 refine cB hT oT hm Up rfl br rfl 60 aab (fun _=>?_) K pre
 simp only[af.all,aF]
 exact⟨⟨aa,aa,a1,aa,a3,aa⟩,aa,Mo hs1⟩
def MJ:Spec:=cw fun l=>match l with
 |[.rat q n]=>some (aT (.rat q n) [n<2^44])
 |_=>none
theorem ae8:bF P MJ 166:=by
 refine cY fun K args r hk hs _=>?_
 split at hs
 ·simp only[aB]at hs
  subst hs
  exact fun need=>aax need K [] trivial
 ·simp at hs
theorem aaX {n:Int} (h1:-2^63<=n) (h2:n<2^63) (K:Nat) (pre:aG):aY P 134 K [.int .i64 n] pre (aT (.mag n.natAbs) []):=by
 refine cB hT oT hm Xm rfl br rfl 60 afv (fun _=>?_) K pre
 simp only[af.all,aF,beq_iff_eq,beq_eq_false_iff_ne,ne_eq]
 refine⟨fun hb=>⟨aa,fo ?_⟩,fun hb=>?_⟩
 ·subst hb;rfl
 ·have e:IntKind.i64.wrap (0-n)=-n:=by rw[wrap_i64 aa aa];omega
  rw[e]
  have e2 : IntKind.u64.wrap (if n < -n then -n else n) = ((n.natAbs : Nat) : Int) := by
   rw[cG (by split<;>omega) (by split<;>omega)]
   split<;>omega
  rw[e2]
  refine⟨⟨aa,aa⟩,fo (by rw[bJ])⟩
def Ja:Spec:=cw fun l=>match l with
 |[.int .i64 n]=>some (aT (.mag n.natAbs) [-2^63<=n,n<2^63])
 |_=>none
theorem TT:bF P Ja 134:=by
 refine cY fun K args r hk hs _=>?_
 split at hs
 ·simp only[aB]at hs
  subst hs
  exact fun need=>aaX need.1 need.2 K [] trivial
 ·simp at hs
def Ga:Spec:=cw fun l=>match l with
 |[.bool b,x,y]=>match kj x,kj y with
  |some N,some D=>some (aT (.rat (sQ b N D) (dQ (sQ b N D))) [nl N<2^40,nl D<2^40])
  |_,_=>none
 |_=>none
theorem KP:bF P Ga 133:=by
 refine cY fun K args r hk hs _=>?_
 split at hs
 ·split at hs
  ·rename_i N D h1 h2
   simp only[aB]at hs
   subst hs
   exact fun need=>je (adY need.1 need.2 K []) hk ⟨.refl _,mX h1,mX h2,trivial⟩ [] trivial
  ·simp at hs
 ·simp at hs
end Go.Am.B
