/- Lists of numbers as arguments. -/
import Derived.Test.YtbghpkgbokbmlaaGreatZ2
import Derived.Test.YtbghpkgbokbmlaaGreatC3
set_option linter.unusedVariables false
namespace Go.Am.B
open AV
def aK : AV → Rat
 | .rat q _ => q
 | _ => 0
def bM (f : Nat → AV) (n s : Nat) : Prop := ∀ i, i < n → bn (f i) (.rat (aK (f i)) s)
abbrev bX (k : Nat → Rat) (n s : Nat) : AV := .aj 3 n (fun i => .rat (k i) s)
theorem cI {k : Nat → Rat} {n s s' : Nat} (h : s ≤ s') : bM (fun i => .rat (k i) s) n s' := fun _ _ => dN h
theorem adx {f : Nat → AV} {n s : Nat} (h : bM f n s) : bn (.aj 3 n f) (bX (fun i => aK (f i)) n s) := gC h
def AQ : AV → Option (Nat × (Nat → AV))
 | .aj 3 n f => some (n, f)
 | .nil => some (0, fun _ => .rat 0 1)
 | _ => none
theorem VX {v : AV} {n s : Nat} {f : Nat → AV} (h : AQ v = some (n, f)) (ha : bM f n s) : bn v (bX (fun i => aK (f i)) n s) := by
 unfold AQ at h
 split at h
 ·simp only [Option.some.injEq, Prod.mk.injEq] at h
  obtain ⟨rfl, rfl⟩ := h
  exact adx ha
 ·simp only [Option.some.injEq, Prod.mk.injEq] at h
  obtain ⟨rfl, rfl⟩ := h
  exact gL (by omega)
 ·simp at h
end Go.Am.B
