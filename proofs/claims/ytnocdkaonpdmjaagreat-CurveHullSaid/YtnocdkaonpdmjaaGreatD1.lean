/- Lists of numbers as arguments. -/
import Derived.Test.YtnocdkaonpdmjaaGreatZ2
import Derived.Test.YtnocdkaonpdmjaaGreatC3
set_option linter.unusedVariables false
namespace Go.Am.B
open AV
def bp : AV → Rat
 | .rat q _ => q
 | _ => 0
def cz (f : Nat → AV) (n s : Nat) : Prop := ∀ i, i < n → bA (f i) (.rat (bp (f i)) s)
abbrev bI (k : Nat → Rat) (n s : Nat) : AV := .ak 3 n (fun i => .rat (k i) s)
theorem ej {k : Nat → Rat} {n s s' : Nat} (h : s ≤ s') : cz (fun i => .rat (k i) s) n s' := fun _ _ => ew h
theorem Be {f : Nat → AV} {n s : Nat} (h : cz f n s) : bA (.ak 3 n f) (bI (fun i => bp (f i)) n s) := k8 h
def zA : AV → Option (Nat × (Nat → AV))
 | .ak 3 n f => some (n, f)
 | .nil => some (0, fun _ => .rat 0 1)
 | _ => none
theorem Vi {v : AV} {n s : Nat} {f : Nat → AV} (h : zA v = some (n, f)) (ha : cz f n s) : bA v (bI (fun i => bp (f i)) n s) := by
 unfold zA at h
 split at h
 ·simp only [Option.some.injEq, Prod.mk.injEq] at h
  obtain ⟨rfl, rfl⟩ := h
  exact Be ha
 ·simp only [Option.some.injEq, Prod.mk.injEq] at h
  obtain ⟨rfl, rfl⟩ := h
  exact jf (by omega)
 ·simp at h
end Go.Am.B
