/- Lists of numbers as arguments. -/
import Derived.Test.YtppeigelbecpbaaGreatZ2
import Derived.Test.YtppeigelbecpbaaGreatC3
set_option linter.unusedVariables false
namespace Go.Am.B
open AV
def aT:AV→Rat
 |.rat q _=>q
 |_=>0
def bP (f:Nat→AV) (n s:Nat):Prop:=∀i,i<n→bA (f i) (.rat (aT (f i)) s)
abbrev aV (k:Nat→Rat) (n s:Nat):AV:=.aj 3 n (fun i=>.rat (k i) s)
theorem cU {k:Nat→Rat} {n s s':Nat} (h:s≤s'):bP (fun i=>.rat (k i) s) n s':=fun _ _=>eW h
theorem Fe {f:Nat→AV} {n s:Nat} (h:bP f n s):bA (.aj 3 n f) (aV (fun i=>aT (f i)) n s):=jh h
def uF:AV→Option (Nat×(Nat→AV))
 |.aj 3 n f=>some (n,f)
 |.nil=>some (0,fun _=>.rat 0 1)
 |_=>none
theorem aiT {v:AV} {n s:Nat} {f:Nat→AV} (h:uF v=some (n,f)) (ha:bP f n s):bA v (aV (fun i=>aT (f i)) n s):=by
 unfold uF at h
 split at h
 ·simp only[Option.some.injEq,Prod.mk.injEq]at h
  obtain⟨rfl,rfl⟩:=h
  exact Fe ha
 ·simp only[Option.some.injEq,Prod.mk.injEq]at h
  obtain⟨rfl,rfl⟩:=h
  exact iJ (by omega)
 ·simp at h
end Go.Am.B
