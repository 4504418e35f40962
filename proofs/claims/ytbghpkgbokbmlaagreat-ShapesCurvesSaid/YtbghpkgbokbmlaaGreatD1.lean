/- Lists of numbers as arguments. -/
import Derived.Test.YtbghpkgbokbmlaaGreatZ2
import Derived.Test.YtbghpkgbokbmlaaGreatC3
set_option linter.unusedVariables false
namespace Go.Am.B
open AV
def bQ : AV → Rat
 | .rat q _ => q
 | _ => 0
def fl (f : Nat → AV) (n s : Nat) : Prop := ∀ i, i < n → bp (f i) (.rat (bQ (f i)) s)
abbrev g8 (k : Nat → Rat) (n s : Nat) : AV := .ak 3 n (fun i => .rat (k i) s)
theorem iK {k : Nat → Rat} {n s s' : Nat} (h : s ≤ s') : fl (fun i => .rat (k i) s) n s' := fun _ _ => dZ h
theorem KR {f : Nat → AV} {n s : Nat} (h : fl f n s) : bp (.ak 3 n f) (g8 (fun i => bQ (f i)) n s) := iV h
def vZ : AV → Option (Nat × (Nat → AV))
 | .ak 3 n f => some (n, f)
 | .nil => some (0, fun _ => .rat 0 1)
 | _ => none
theorem JL {v : AV} {n s : Nat} {f : Nat → AV} (h : vZ v = some (n, f)) (ha : fl f n s) : bp v (g8 (fun i => bQ (f i)) n s) := by
 unfold vZ at h
 split at h
 ·simp only [Option.some.injEq, Prod.mk.injEq] at h
  obtain ⟨rfl, rfl⟩ := h
  exact KR ha
 ·simp only [Option.some.injEq, Prod.mk.injEq] at h
  obtain ⟨rfl, rfl⟩ := h
  exact fK (by omega)
 ·simp at h
end Go.Am.B
