/- Lists of numbers as arguments. -/
import Derived.Test.YtbghpkgbokbmlaaGreatZ2
import Derived.Test.YtbghpkgbokbmlaaGreatC3
set_option linter.unusedVariables false
namespace Go.Am.B
open AV
def aY : AV → Rat
 | .rat q _ => q
 | _ => 0
def bZ (f : Nat → AV) (n s : Nat) : Prop := ∀ i, i < n → bu (f i) (.rat (aY (f i)) s)
abbrev bH (k : Nat → Rat) (n s : Nat) : AV := .aj 3 n (fun i => .rat (k i) s)
theorem eP {k : Nat → Rat} {n s s' : Nat} (h : s ≤ s') : bZ (fun i => .rat (k i) s) n s' := fun _ _ => dF h
theorem MV {f : Nat → AV} {n s : Nat} (h : bZ f n s) : bu (.aj 3 n f) (bH (fun i => aY (f i)) n s) := dP h
def BA : AV → Option (Nat × (Nat → AV))
 | .aj 3 n f => some (n, f)
 | .nil => some (0, fun _ => .rat 0 1)
 | _ => none
theorem UR {v : AV} {n s : Nat} {f : Nat → AV} (h : BA v = some (n, f)) (ha : bZ f n s) : bu v (bH (fun i => aY (f i)) n s) := by
 unfold BA at h
 split at h
 ·simp only [Option.some.injEq, Prod.mk.injEq] at h
  obtain ⟨rfl, rfl⟩ := h
  exact MV ha
 ·simp only [Option.some.injEq, Prod.mk.injEq] at h
  obtain ⟨rfl, rfl⟩ := h
  exact gD (by omega)
 ·simp at h
end Go.Am.B
