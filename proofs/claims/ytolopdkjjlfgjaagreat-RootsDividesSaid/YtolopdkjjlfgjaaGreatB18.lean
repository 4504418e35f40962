/- rational.den, parts, Same, Sign, copied, size: their contracts. -/
import Derived.Test.YtolopdkjjlfgjaaGreatB17
set_option linter.unusedVariables false
namespace Go.Am.B
open Go Go.Am.N AV
theorem WX {q:Rat} {n:Nat} (K:Nat) (pre:aE):aP P 120 K [.rat q n] pre (aK (.mag q.den) []):=by
 refine bZ hT mA hm YP rfl aW rfl 60 acS (fun _=>?_) K pre
 simp only[af.all,aA,beq_iff_eq,beq_eq_false_iff_ne,ne_eq]
 refine⟨aa,fun hb=>ef ?_,fun hb=>⟨aa,ef ?_⟩⟩
 ·have h0:=q.den_nz
  have:(if q.den=1 then 0 else q.den)=0:=jE.1 aa
  split at this
  ·rename_i h;rw[h]
  ·omega
 ·split
  ·rename_i h;rw[if_pos h]at hb;exact absurd (by decide) hb
  ·rfl
def J9:Spec:=bU fun l=>match l with
 |[.rat q _]=>some (aK (.mag q.den) [])
 |_=>none
theorem adN:bf P J9 120:=by
 refine cJ fun K args r hk hs _=>?_
 split at hs
 ·simp only[ay]at hs
  subst hs
  exact WX K []
 ·simp at hs
def eu (q:Rat):Bool:=decide (q.num.natAbs<4294967296)&&decide (q.den<4294967296)
abbrev ud (q:Rat):AV:=.tuple [.int .u64 (if eu q then q.num.natAbs else 0:Nat),.int .u64 (if eu q then q.den else 0:Nat),.bool (eu q)]
theorem sE {N:Nat}:nl N<=1↔N<4294967296:=dJ
theorem Nl {q:Rat} {n:Nat} (K:Nat) (pre:aE):aP P 116 K [.rat q n] pre (aK (ud q) []):=by
 refine bZ hT mA hm abo rfl aW rfl 60 NB (fun _=>?_) K pre
 simp only[af.all,aA,beq_iff_eq,beq_eq_false_iff_ne,ne_eq,bw,bB,Int.toNat_zero]
 have hd:=q.den_nz
 have no:¬(q.num.natAbs<4294967296/\q.den<4294967296)->fX [.int .u64 0,.int .u64 0,.bool false] (ud q):=by
  intro h
  have:eu q=false:=by
   unfold eu
   by_cases h1:q.num.natAbs<4294967296
   ·simp[h1];omega
   ·simp[h1]
  unfold ud
  rw[this]
  exact⟨.refl _,.refl _,.refl _,trivial⟩
 have yes:∀{x:Int} {v:Bool},q.num.natAbs<4294967296/\q.den<4294967296->x=(q.den:Nat)->v=true->fX [.int .u64 (q.num.natAbs:Nat),.int .u64 x,.bool v] (ud q):=by
  intro x v h hx hv
  have:eu q=true:=by unfold eu;simp[h]
  unfold ud
  rw[this]
  exact⟨.refl _,bN hx,iB hv,trivial⟩
 have hden:∀{m:Nat},nl (if q.den=1 then 0 else q.den)<=m↔(q.den=1\/nl q.den<=m):=by
  intro m
  by_cases h:q.den=1
  ·simp[h];simp[nl]
  ·simp[h]
 refine⟨fun hb=>⟨⟨aa,hb⟩,fun _=>no ?_,fun h=>by simp at h⟩,fun hb=>⟨⟨aa,hb,aa⟩,fun hc=>no ?_,fun hc=>⟨aa,fun h1=>⟨⟨aa,aa,aa⟩,⟨aa,aa⟩,?_⟩,fun h1=>⟨⟨aa,aa⟩,yes ?_ ?_ rfl⟩⟩⟩⟩
 ·have:=sE (N:=q.num.natAbs);omega
 ·have h2:=of_decide_eq_true (ic hc)
  have h3:=hden (m:=1)
  have h4:=sE (N:=q.den)
  omega
 ·have h2:=of_decide_eq_false (ic hc)
  have hn1:q.den≠1:=fun h=>by rw[if_pos h]at h1;simp[nl]at h1
  rw[if_neg hn1]at h1 h2 ⊢
  have h4:=(sE (N:=q.den)).1 aa
  have h5:=(sE (N:=q.num.natAbs)).1 aa
  have hl:aD q.den 0=q.den:=by
   have:=gn (N:=q.den)
   rw[show nl q.den=1 by omega,val,val]at this
   simpa using this
  rw[hl,ck aa aa]
  exact yes ⟨h5,h4⟩ rfl (by simp;omega)
 ·have h2:=of_decide_eq_false (ic hc)
  have h3:=hden (m:=1)
  have h3':=hden (m:=0)
  have h4:=sE (N:=q.den)
  have h5:=sE (N:=q.num.natAbs)
  have h6:=gC (N:=q.den)
  omega
 ·have h2:=of_decide_eq_false (ic hc)
  have h3:=hden (m:=0)
  have h6:=gC (N:=q.den)
  omega
def IZ:Spec:=bU fun l=>match l with
 |[.rat q _]=>some (aK (ud q) [])
 |_=>none
theorem U3:bf P IZ 116:=by
 refine cJ fun K args r hk hs _=>?_
 split at hs
 ·simp only[ay]at hs
  subst hs
  exact Nl K []
 ·simp at hs
theorem oD {q r:Rat}:q=r↔(decide (q<0)=decide (r<0))/\q.num.natAbs=r.num.natAbs/\(if q.den=1 then 0 else q.den)=(if r.den=1 then 0 else r.den):=by
 constructor
 ·intro h;subst h;exact⟨rfl,rfl,rfl⟩
 ·rintro⟨h1,h2,h3⟩
  have hd:q.den=r.den:=by
   have:=q.den_nz
   have:=r.den_nz
   split at h3<;>split at h3<;>omega
  rw[<-ki q,<-ki r,h1,h2,hd]
theorem VM {q r:Rat} {n m:Nat} (hn:n<2^44) (hm':m<2^44) (K:Nat) (pre:aE):aP P 110 K [.rat q n,.rat r m] pre (aK (.bool (decide (q=r))) []):=by
 refine kg fun⟨hs1,hs2,_⟩=>?_
 obtain⟨a1,a2,a3⟩:=Sz.j0 hs1 hn
 obtain⟨b1,b2,b3⟩:=Sz.j0 hs2 hm'
 refine bZ hT mA hm Vj rfl aW rfl 60 abQ (fun _=>?_) K pre
 simp only[af.all,aA]
 refine⟨fun hb=>⟨fun hc=>⟨⟨aa,aa,hb,aa,aa,a1,b1,hc,aa,aa,a3,b3⟩,iB ?_⟩,fun hc=>⟨⟨aa,aa,hb,aa,aa,a1,b1,hc⟩,iB ?_⟩⟩,fun hb=>⟨fun h=>by simp at h,fun _=>⟨⟨aa,aa,hb,trivial⟩,iB ?_⟩⟩⟩
 ·have h1:=eq_of_beq hb
  have h2:=of_decide_eq_true (jf hc)
  rw[cond_true]
  exact decide_eq_decide.2 ⟨fun h=>oD.2 ⟨h1,h2,h⟩,fun h=>(oD.1 h).2.2⟩
 ·have h2:=of_decide_eq_false (jf hc)
  exact(decide_eq_false fun h=>h2 (oD.1 h).2.1).symm
 ·refine(decide_eq_false fun h=>?_).symm
  rw[(oD.1 h).1]at hb
  simp at hb
theorem nN {q:Rat}:q.num.natAbs=0↔q=0:=by rw[Int.natAbs_eq_zero,Rat.num_eq_zero]
theorem KB {q:Rat} (h:q≠0) (h2:¬q<0):0<q:=by
 rw[Rat.lt_iff]
 have h3:¬q.num<0:=fun h=>h2 (iW.2 h)
 have h4:q.num≠0:=fun h5=>h (Rat.num_eq_zero.1 h5)
 simp;omega
theorem Hr {q:Rat} {n:Nat} (hn:n<2^44) (K:Nat) (pre:aE):aP P 65 K [.rat q n] pre (aK (.int .i64 (dn q)) []):=by
 refine kg fun⟨hs1,_⟩=>?_
 obtain⟨a1,a2,a3⟩:=Sz.j0 hs1 hn
 refine bZ hT mA hm Sf rfl aW rfl 60 OB (fun _=>?_) K pre
 simp only[af.all,aA,beq_iff_eq,beq_eq_false_iff_ne,ne_eq]
 refine⟨⟨aa,a1⟩,fun hb=>bN ?_,fun hb=>⟨aa,fun hc=>bN ?_,fun hc=>bN ?_⟩⟩
 ·have h0:q=0:=nN.1 (Bh.1 aa)
  subst h0
  rfl
 ·have:=of_decide_eq_true hc
  unfold dn;rw[if_pos this]
 ·have h1:=of_decide_eq_false hc
  have h0:q≠0:=fun h=>hb (by rw[h];rfl)
  unfold dn;rw[if_neg h1,if_pos (KB h0 h1)]
def HN:Spec:=bU fun l=>match l with
 |[.rat q n]=>some (aK (.int .i64 (dn q)) [n<2^44])
 |_=>none
theorem TK:bf P HN 65:=by
 refine cJ fun K args r hk hs _=>?_
 split at hs
 ·simp only[ay]at hs
  subst hs
  exact fun need=>Hr need K [] trivial
 ·simp at hs
theorem JG {q:Rat} {n:Nat} (h:Sz q n):bA (.agg [.bool (decide (q<0)),.mag q.num.natAbs,.mag (if q.den=1 then 0 else q.den)]) (.rat q n):=qX h rfl rfl rfl
theorem ac4 {q:Rat} {n:Nat} (hn:n<2^44) (K:Nat) (pre:aE):aP P 166 K [.rat q n] pre (aK (.rat q n) []):=by
 refine kg fun⟨hs1,_⟩=>?_
 have hs1:Sz q n:=hs1
 obtain⟨a1,a2,a3⟩:=Sz.j0 hs1 hn
 refine bZ hT mA hm acn rfl aW rfl 60 ZC (fun _=>?_) K pre
 simp only[af.all,aA]
 exact⟨⟨aa,aa,a1,aa,a3,aa⟩,aa,JG hs1⟩
def HR:Spec:=bU fun l=>match l with
 |[.rat q n]=>some (aK (.rat q n) [n<2^44])
 |_=>none
theorem UG:bf P HR 166:=by
 refine cJ fun K args r hk hs _=>?_
 split at hs
 ·simp only[ay]at hs
  subst hs
  exact fun need=>ac4 need K [] trivial
 ·simp at hs
theorem acV {n:Int} (h1:-2^63<=n) (h2:n<2^63) (K:Nat) (pre:aE):aP P 134 K [.int .i64 n] pre (aK (.mag n.natAbs) []):=by
 refine bZ hT mA hm PM rfl aW rfl 60 Yc (fun _=>?_) K pre
 simp only[af.all,aA,beq_iff_eq,beq_eq_false_iff_ne,ne_eq]
 refine⟨fun hb=>⟨aa,ef ?_⟩,fun hb=>?_⟩
 ·subst hb;rfl
 ·have e:IntKind.i64.wrap (0-n)=-n:=by rw[wrap_i64 aa aa];omega
  rw[e]
  have e2 : IntKind.u64.wrap (if n < -n then -n else n) = ((n.natAbs : Nat) : Int) := by
   rw[ck (by split<;>omega) (by split<;>omega)]
   split<;>omega
  rw[e2]
  refine⟨⟨aa,aa⟩,ef (by rw[bu])⟩
def Iy:Spec:=bU fun l=>match l with
 |[.int .i64 n]=>some (aK (.mag n.natAbs) [-2^63<=n,n<2^63])
 |_=>none
theorem adm:bf P Iy 134:=by
 refine cJ fun K args r hk hs _=>?_
 split at hs
 ·simp only[ay]at hs
  subst hs
  exact fun need=>acV need.1 need.2 K [] trivial
 ·simp at hs
def A9:Spec:=bU fun l=>match l with
 |[.bool b,x,y]=>match iY x,iY y with
  |some N,some D=>some (aK (.rat (sQ b N D) (dB (sQ b N D))) [nl N<2^40,nl D<2^40])
  |_,_=>none
 |_=>none
theorem K3:bf P A9 133:=by
 refine cJ fun K args r hk hs _=>?_
 split at hs
 ·split at hs
  ·rename_i N D h1 h2
   simp only[ay]at hs
   subst hs
   exact fun need=>gD (XZ need.1 need.2 K []) hk ⟨.refl _,kG h1,kG h2,trivial⟩ [] trivial
  ·simp at hs
 ·simp at hs
end Go.Am.B
