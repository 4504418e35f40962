/- Lists of numbers as arguments. -/
import Derived.Test.YtbghpkgbokbmlaaGreatZ2
import Derived.Test.YtbghpkgbokbmlaaGreatC3
set_option linter.unusedVariables false
namespace Go.Am.B
open AV
def bg : AV → Rat
 | .rat q _ => q
 | _ => 0
def b9 (f : Nat → AV) (n s : Nat) : Prop := ∀ i, i < n → bu (f i) (.rat (bg (f i)) s)
abbrev bP (k : Nat → Rat) (n s : Nat) : AV := .ag 3 n (fun i => .rat (k i) s)
theorem en {k : Nat → Rat} {n s s' : Nat} (h : s ≤ s') : b9 (fun i => .rat (k i) s) n s' := fun _ _ => dY h
theorem L6 {f : Nat → AV} {n s : Nat} (h : b9 f n s) : bu (.ag 3 n f) (bP (fun i => bg (f i)) n s) := gJ h
def BI : AV → Option (Nat × (Nat → AV))
 | .ag 3 n f => some (n, f)
 | .nil => some (0, fun _ => .rat 0 1)
 | _ => none
theorem UC {v : AV} {n s : Nat} {f : Nat → AV} (h : BI v = some (n, f)) (ha : b9 f n s) : bu v (bP (fun i => bg (f i)) n s) := by
 unfold BI at h
 split at h
 ·simp only [Option.some.injEq, Prod.mk.injEq] at h
  obtain ⟨rfl, rfl⟩ := h
  exact L6 ha
 ·simp only [Option.some.injEq, Prod.mk.injEq] at h
  obtain ⟨rfl, rfl⟩ := h
  exact jB (by omega)
 ·simp at h
end Go.Am.B
