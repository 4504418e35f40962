/- Plain laws of knots: how the different ones are moved to the front; which lists are sorted. -/
import Derived.Test.YtppeigelbecpbaaGreatC7
set_option linter.unusedVariables false
namespace Go.Am.B
def fX (k:Nat→Rat) (l i:Nat):Rat:=if i<bB k l then cL k l i else k i
theorem zA {k:Nat→Rat}:∀{b:Nat},(∀i,i<b→fe k i)→bB k b=b∧∀i,i<b→cL k b i=k i
 |0,_=>⟨rfl,fun i hi=>by omega⟩
 |b+1,h=>by
  obtain⟨h1,h2⟩:=zA (k:=k) (b:=b) fun i hi=>h i (by omega)
  rw[bB,cL,if_pos (h b (by omega)),if_pos (h b (by omega)),h1]
  refine⟨rfl,fun i hi=>?_⟩
  unfold ov
  split
  ·rename_i e;rw[e]
  ·exact h2 i (by omega)
theorem KC {k:Nat→Rat} {b:Nat} (h:∀i,i<b→fe k i) (hb:¬fe k b):bB k (b+1)=b∧∀i,fX k (b+1) i=k i:=by
 obtain⟨h1,h2⟩:=zA h
 have e:bB k (b+1)=b:=by rw[bB,if_neg hb,h1];rfl
 refine⟨e,fun i=>?_⟩
 unfold fX
 rw[e,cL,if_neg hb]
 split
 ·exact h2 i ‹_›
 ·rfl
theorem DF {k:Nat→Rat} {n:Nat} (h:∀i,i<n→fe k i):bB k n=n∧∀i,i<n→cL k n i=k i:=zA h
theorem LM {k:Nat→Rat} {l i:Nat} (h:fe k l) (hl:bB k l≤l):fX k (l+1) i=if i=bB k l then k l else fX k l i:=by
 unfold fX
 rw[bB,cL,if_pos h,if_pos h]
 unfold ov
 by_cases h1:i=bB k l
 ·subst h1
  rw[if_pos (by omega),if_pos rfl,if_pos rfl]
 ·rw[if_neg h1]
  by_cases h2:i<bB k l
  ·rw[if_pos (by omega),if_pos h2,if_neg h1]
  ·rw[if_neg (by omega),if_neg h2,if_neg h1]
theorem R8 {k:Nat→Rat} {l i:Nat} (h:¬fe k l):bB k (l+1)=bB k l∧fX k (l+1) i=fX k l i:=by
 unfold fX
 rw[bB,cL,if_neg h,if_neg h]
 exact⟨rfl,rfl⟩
theorem Ur {k:Nat→Rat} {l:Nat} (h:fe k l):bB k (l+1)=bB k l+1:=by rw[bB,if_pos h]
theorem F8 {k:Nat→Rat} {l:Nat} (h:¬fe k l):bB k (l+1)=bB k l:=by rw[bB,if_neg h];rfl
theorem CH {k:Nat→Rat} {l i:Nat} (h:bB k l≤i):fX k l i=k i:=by unfold fX;rw[if_neg (by omega)]
theorem Hh {k:Nat→Rat} {b:Nat} (hb:¬fe k b):∀{l:Nat},b<l→bB k l<l
 |0,h=>by omega
 |l+1,h=>by
  by_cases he:l=b
  ·subst he;rw[F8 hb];have:=ny (k:=k) (n:=l);omega
  ·have:=Hh hb (l:=l) (by omega)
   have h2:=ny (k:=k) (n:=l)
   rw[bB];split<;>omega
open Classical in
theorem QT {n:Nat} {k:Nat→Rat} {p:Int} (h:p<1∨6<p):fc n k p=1:=if_pos h
theorem SJ {n:Nat} {k:Nat→Rat} {p:Int} (h:¬(p<1∨6<p)) (h2:(n:Int)<2*p+2):fc n k p=5:=by unfold fc;rw[if_neg h,if_pos h2]
theorem Ov {n:Nat} {k:Nat→Rat} {p:Int} (h:¬(p<1∨6<p)) (h2:¬(n:Int)<2*p+2) (h3:40<(n:Int)-p-1):fc n k p=2:=by unfold fc;rw[if_neg h,if_neg h2,if_pos h3]
theorem Uo {n:Nat} {k:Nat→Rat} {p:Int} (h:¬(p<1∨6<p)) (h2:¬(n:Int)<2*p+2) (h3:¬40<(n:Int)-p-1) (h4:nO n k p.toNat):fc n k p=0:=by unfold fc;rw[if_neg h,if_neg h2,if_neg h3,if_pos h4]
theorem yQ {n:Nat} {k:Nat→Rat} {p:Int} (h:¬(p<1∨6<p)) (h2:¬(n:Int)<2*p+2) (h3:¬40<(n:Int)-p-1) (h4:¬nO n k p.toNat):fc n k p=5:=by unfold fc;rw[if_neg h,if_neg h2,if_neg h3,if_neg h4]
end Go.Am.B
