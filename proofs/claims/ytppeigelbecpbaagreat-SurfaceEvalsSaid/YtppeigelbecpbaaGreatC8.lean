/- Plain laws of fG: how the different ones are moved to the front; which lists are sorted. -/
import Derived.Test.YtppeigelbecpbaaGreatC7
set_option linter.unusedVariables false
namespace Go.Am.B
def gH (k:Nat→Rat) (l i:Nat):Rat:=if i<bW k l then cS k l i else k i
theorem CF {k:Nat→Rat}:∀{b:Nat},(∀i,i<b→fI k i)→bW k b=b∧∀i,i<b→cS k b i=k i
 |0,_=>⟨rfl,fun i hi=>by omega⟩
 |b+1,h=>by
  obtain⟨h1,h2⟩:=CF (k:=k) (b:=b) fun i hi=>h i (by omega)
  rw[bW,cS,if_pos (h b (by omega)),if_pos (h b (by omega)),h1]
  refine⟨rfl,fun i hi=>?_⟩
  unfold jJ
  split
  ·rename_i e;rw[e]
  ·exact h2 i (by omega)
theorem adG {k:Nat→Rat} {b:Nat} (h:∀i,i<b→fI k i) (hb:¬fI k b):bW k (b+1)=b∧∀i,gH k (b+1) i=k i:=by
 obtain⟨h1,h2⟩:=CF h
 have e:bW k (b+1)=b:=by rw[bW,if_neg hb,h1];rfl
 refine⟨e,fun i=>?_⟩
 unfold gH
 rw[e,cS,if_neg hb]
 split
 ·exact h2 i ‹_›
 ·rfl
theorem Kk {k:Nat→Rat} {n:Nat} (h:∀i,i<n→fI k i):bW k n=n∧∀i,i<n→cS k n i=k i:=CF h
theorem ZQ {k:Nat→Rat} {l i:Nat} (h:fI k l) (hl:bW k l≤l):gH k (l+1) i=if i=bW k l then k l else gH k l i:=by
 unfold gH
 rw[bW,cS,if_pos h,if_pos h]
 unfold jJ
 by_cases h1:i=bW k l
 ·subst h1
  rw[if_pos (by omega),if_pos rfl,if_pos rfl]
 ·rw[if_neg h1]
  by_cases h2:i<bW k l
  ·rw[if_pos (by omega),if_pos h2,if_neg h1]
  ·rw[if_neg (by omega),if_neg h2,if_neg h1]
theorem SO {k:Nat→Rat} {l i:Nat} (h:¬fI k l):bW k (l+1)=bW k l∧gH k (l+1) i=gH k l i:=by
 unfold gH
 rw[bW,cS,if_neg h,if_neg h]
 exact⟨rfl,rfl⟩
theorem So {k:Nat→Rat} {l:Nat} (h:fI k l):bW k (l+1)=bW k l+1:=by rw[bW,if_pos h]
theorem IP {k:Nat→Rat} {l:Nat} (h:¬fI k l):bW k (l+1)=bW k l:=by rw[bW,if_neg h];rfl
theorem IL {k:Nat→Rat} {l i:Nat} (h:bW k l≤i):gH k l i=k i:=by unfold gH;rw[if_neg (by omega)]
theorem Hz {k:Nat→Rat} {b:Nat} (hb:¬fI k b):∀{l:Nat},b<l→bW k l<l
 |0,h=>by omega
 |l+1,h=>by
  by_cases he:l=b
  ·subst he;rw[IP hb];have:=rQ (k:=k) (n:=l);omega
  ·have:=Hz hb (l:=l) (by omega)
   have h2:=rQ (k:=k) (n:=l)
   rw[bW];split<;>omega
open Classical in
theorem TM {n:Nat} {k:Nat→Rat} {p:Int} (h:p<1∨6<p):fq n k p=1:=if_pos h
theorem Ur {n:Nat} {k:Nat→Rat} {p:Int} (h:¬(p<1∨6<p)) (h2:(n:Int)<2*p+2):fq n k p=5:=by unfold fq;rw[if_neg h,if_pos h2]
theorem Tl {n:Nat} {k:Nat→Rat} {p:Int} (h:¬(p<1∨6<p)) (h2:¬(n:Int)<2*p+2) (h3:40<(n:Int)-p-1):fq n k p=2:=by unfold fq;rw[if_neg h,if_neg h2,if_pos h3]
theorem Y0 {n:Nat} {k:Nat→Rat} {p:Int} (h:¬(p<1∨6<p)) (h2:¬(n:Int)<2*p+2) (h3:¬40<(n:Int)-p-1) (h4:pR n k p.toNat):fq n k p=0:=by unfold fq;rw[if_neg h,if_neg h2,if_neg h3,if_pos h4]
theorem E0 {n:Nat} {k:Nat→Rat} {p:Int} (h:¬(p<1∨6<p)) (h2:¬(n:Int)<2*p+2) (h3:¬40<(n:Int)-p-1) (h4:¬pR n k p.toNat):fq n k p=5:=by unfold fq;rw[if_neg h,if_neg h2,if_neg h3,if_neg h4]
end Go.Am.B
