/- Plain laws of fJ: how the different ones are moved to the front; which lists are sorted. -/
import Derived.Test.YtppeigelbecpbaaGreatC7
set_option linter.unusedVariables false
namespace Go.Am.B
def gN (k:Nat→Rat) (l i:Nat):Rat:=if i<bX k l then dg k l i else k i
theorem Hx {k:Nat→Rat}:∀{b:Nat},(∀i,i<b→fQ k i)→bX k b=b∧∀i,i<b→dg k b i=k i
 |0,_=>⟨rfl,fun i hi=>by omega⟩
 |b+1,h=>by
  obtain⟨h1,h2⟩:=Hx (k:=k) (b:=b) fun i hi=>h i (by omega)
  rw[bX,dg,if_pos (h b (by omega)),if_pos (h b (by omega)),h1]
  refine⟨rfl,fun i hi=>?_⟩
  unfold kn
  split
  ·rename_i e;rw[e]
  ·exact h2 i (by omega)
theorem afz {k:Nat→Rat} {b:Nat} (h:∀i,i<b→fQ k i) (hb:¬fQ k b):bX k (b+1)=b∧∀i,gN k (b+1) i=k i:=by
 obtain⟨h1,h2⟩:=Hx h
 have e:bX k (b+1)=b:=by rw[bX,if_neg hb,h1];rfl
 refine⟨e,fun i=>?_⟩
 unfold gN
 rw[e,dg,if_neg hb]
 split
 ·exact h2 i ‹_›
 ·rfl
theorem KX {k:Nat→Rat} {n:Nat} (h:∀i,i<n→fQ k i):bX k n=n∧∀i,i<n→dg k n i=k i:=Hx h
theorem aj0 {k:Nat→Rat} {l i:Nat} (h:fQ k l) (hl:bX k l≤l):gN k (l+1) i=if i=bX k l then k l else gN k l i:=by
 unfold gN
 rw[bX,dg,if_pos h,if_pos h]
 unfold kn
 by_cases h1:i=bX k l
 ·subst h1
  rw[if_pos (by omega),if_pos rfl,if_pos rfl]
 ·rw[if_neg h1]
  by_cases h2:i<bX k l
  ·rw[if_pos (by omega),if_pos h2,if_neg h1]
  ·rw[if_neg (by omega),if_neg h2,if_neg h1]
theorem agY {k:Nat→Rat} {l i:Nat} (h:¬fQ k l):bX k (l+1)=bX k l∧gN k (l+1) i=gN k l i:=by
 unfold gN
 rw[bX,dg,if_neg h,if_neg h]
 exact⟨rfl,rfl⟩
theorem aiu {k:Nat→Rat} {l:Nat} (h:fQ k l):bX k (l+1)=bX k l+1:=by rw[bX,if_pos h]
theorem NL {k:Nat→Rat} {l:Nat} (h:¬fQ k l):bX k (l+1)=bX k l:=by rw[bX,if_neg h];rfl
theorem LY {k:Nat→Rat} {l i:Nat} (h:bX k l≤i):gN k l i=k i:=by unfold gN;rw[if_neg (by omega)]
theorem JT {k:Nat→Rat} {b:Nat} (hb:¬fQ k b):∀{l:Nat},b<l→bX k l<l
 |0,h=>by omega
 |l+1,h=>by
  by_cases he:l=b
  ·subst he;rw[NL hb];have:=sq (k:=k) (n:=l);omega
  ·have:=JT hb (l:=l) (by omega)
   have h2:=sq (k:=k) (n:=l)
   rw[bX];split<;>omega
open Classical in
theorem ahR {n:Nat} {k:Nat→Rat} {p:Int} (h:p<1∨6<p):fX n k p=1:=if_pos h
theorem Wu {n:Nat} {k:Nat→Rat} {p:Int} (h:¬(p<1∨6<p)) (h2:(n:Int)<2*p+2):fX n k p=5:=by unfold fX;rw[if_neg h,if_pos h2]
theorem Tk {n:Nat} {k:Nat→Rat} {p:Int} (h:¬(p<1∨6<p)) (h2:¬(n:Int)<2*p+2) (h3:40<(n:Int)-p-1):fX n k p=2:=by unfold fX;rw[if_neg h,if_neg h2,if_pos h3]
theorem X1 {n:Nat} {k:Nat→Rat} {p:Int} (h:¬(p<1∨6<p)) (h2:¬(n:Int)<2*p+2) (h3:¬40<(n:Int)-p-1) (h4:qw n k p.toNat):fX n k p=0:=by unfold fX;rw[if_neg h,if_neg h2,if_neg h3,if_pos h4]
theorem Hy {n:Nat} {k:Nat→Rat} {p:Int} (h:¬(p<1∨6<p)) (h2:¬(n:Int)<2*p+2) (h3:¬40<(n:Int)-p-1) (h4:¬qw n k p.toNat):fX n k p=5:=by unfold fX;rw[if_neg h,if_neg h2,if_neg h3,if_neg h4]
end Go.Am.B
