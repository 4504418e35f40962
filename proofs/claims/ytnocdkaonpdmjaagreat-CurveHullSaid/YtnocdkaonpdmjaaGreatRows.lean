/-
  No cell of these rows narrows 'for every input' (looked for: loops, veiled, ifaces, maps, wideKeys, modest, calm, conditions, laid).
  DERIVED. THE GIVEN ROWS OF THIS SEAT. 3 by the template 'for every input the law returns true; each argument reads behind the call as it read before'; 0 by the template 'total and deterministic' (their statements: YtnocdkaonpdmjaaGreatTotals.lean).
  GIVEN WITH THE SEED: the statements are not yours to turn. If you find one false, say at which input.
  Laid BY PROGRAM, IN A SANDBOX (cutbox-rows.mjs): the forced cells as the released guide's own fill.sh prints them over the translation 36ee520c4de86b68… (all of the seat's roots in one cut). By AI agents, Wed Nov 11 2026. No macro, syntax, notation, axiom, sorry.
-/
import Derived.Test.YtnocdkaonpdmjaaGreatChecked
import GoSem.Claim
import GoSem.ClaimJoined
import GoSem.ClaimMapViews
import Derived.JoinedTies
import Derived.KernelRfl
namespace Go.Proofs.YtnocdkaonpdmjaaGreat
/- THE CELL 'sum', in the pinned program and in every row, IS THE sha256 OF THE DUMP (.gsa) THAT YtnocdkaonpdmjaaGreatProg.lean LOADS. Nothing in Lean hashes anything: it is a label: what it is worth is what the hold of that sum in a sandbox is worth. -/
noncomputable def Tryz.pinned : Pinned := { name := "ytnocdkaonpdmjaagreat", sum := "36ee520c4de86b6855fc2fb1bc7b341503d26bb0e918f6ec2ad7536f961a5bf9", checked := Tryz.checked }
namespace Rows
def none {H : Type} : Left H := { results := [], args := [] }

/-- 'brepkernellaw12.SurfaceEvals': WHATEVER THE INPUT: true; the input reads as it did. -/
def surfaceEvalsSpec : ChangeSpec := { name := "surfaceEvals", fn := fun _ => fun
  | [d1, d2, d3, d4] => { results := [.lit (.bool true)], args := [d1, d2, d3, d4] }
  | _ => none }
def surfaceEvalsRow : OpenClaim := { program := "ytnocdkaonpdmjaagreat", sum := "36ee520c4de86b6855fc2fb1bc7b341503d26bb0e918f6ec2ad7536f961a5bf9", func := "brepkernel/brepkernellaw12.SurfaceEvals", spec := "surfaceEvals", inPlace := ["math/bits.Add64"], unfollowed := true, recurses := true, apart := false }
def SurfaceEvalsSaid : Prop := surfaceEvalsRow.holds Tryz.pinned (OpenSpec.ofChange surfaceEvalsSpec)

/-- ITS FALSE NEIGHBOUR: 'it returns false'. Refute it at one input. -/
def surfaceEvalsWrong : ChangeSpec := { name := "surfaceEvals", fn := fun _ => fun
  | [d1, d2, d3, d4] => { results := [.lit (.bool false)], args := [d1, d2, d3, d4] }
  | _ => none }
def SurfaceEvalsWrongFalsely : Prop := surfaceEvalsRow.holds Tryz.pinned (OpenSpec.ofChange surfaceEvalsWrong)

/-- 'brepkernellaw10.CurveHull': WHATEVER THE INPUT: true; the input reads as it did. -/
def curveHullSpec : ChangeSpec := { name := "curveHull", fn := fun _ => fun
  | [d1, d2] => { results := [.lit (.bool true)], args := [d1, d2] }
  | _ => none }
def curveHullRow : OpenClaim := { program := "ytnocdkaonpdmjaagreat", sum := "36ee520c4de86b6855fc2fb1bc7b341503d26bb0e918f6ec2ad7536f961a5bf9", func := "brepkernel/brepkernellaw10.CurveHull", spec := "curveHull", inPlace := ["math/bits.Add64", "slices.overlaps[brepkernel/api.Rat]"], unfollowed := true, recurses := true, apart := false }
def CurveHullSaid : Prop := curveHullRow.holds Tryz.pinned (OpenSpec.ofChange curveHullSpec)

/-- ITS FALSE NEIGHBOUR: 'it returns false'. Refute it at one input. -/
def curveHullWrong : ChangeSpec := { name := "curveHull", fn := fun _ => fun
  | [d1, d2] => { results := [.lit (.bool false)], args := [d1, d2] }
  | _ => none }
def CurveHullWrongFalsely : Prop := curveHullRow.holds Tryz.pinned (OpenSpec.ofChange curveHullWrong)

/-- 'brepkernellaw10.CurveEvals': WHATEVER THE INPUT: true; the input reads as it did. -/
def curveEvalsSpec : ChangeSpec := { name := "curveEvals", fn := fun _ => fun
  | [d1, d2, d3] => { results := [.lit (.bool true)], args := [d1, d2, d3] }
  | _ => none }
def curveEvalsRow : OpenClaim := { program := "ytnocdkaonpdmjaagreat", sum := "36ee520c4de86b6855fc2fb1bc7b341503d26bb0e918f6ec2ad7536f961a5bf9", func := "brepkernel/brepkernellaw10.CurveEvals", spec := "curveEvals", inPlace := ["math/bits.Add64", "slices.overlaps[brepkernel/api.Rat]"], unfollowed := true, recurses := true, apart := false }
def CurveEvalsSaid : Prop := curveEvalsRow.holds Tryz.pinned (OpenSpec.ofChange curveEvalsSpec)

/-- ITS FALSE NEIGHBOUR: 'it returns false'. Refute it at one input. -/
def curveEvalsWrong : ChangeSpec := { name := "curveEvals", fn := fun _ => fun
  | [d1, d2, d3] => { results := [.lit (.bool false)], args := [d1, d2, d3] }
  | _ => none }
def CurveEvalsWrongFalsely : Prop := curveEvalsRow.holds Tryz.pinned (OpenSpec.ofChange curveEvalsWrong)

/- THE SECOND FORM. 'bulk': how many values and letters a reading holds, each counted each time it is reached (what is shared counts as often as it is met; a slice's spare places count too). A statement '..UptoSaid' is the law's where the arguments, and the package variables that the reading takes, are together of bulk at most 1048576: NARROWER than '..Said'. Prove '..Said' where nothing that the law and all that it calls make is longer than what came in: it says more and counts as full. Else prove '..UptoSaid'. A law counts once. -/
mutual
def uptoBulk {H : Type} : DataW H → Nat
  | .lit (.string bytes) => bytes.length + 1
  | .lit _ => 1
  | .nil => 1
  | .ptr d => uptoBulk d + 1
  | .slice elems spare => uptoBulkAll elems + uptoBulkAll spare + 1
  | .agg parts => uptoBulkAll parts + 1
  | .iface _ d => uptoBulk d + 1
  | .map entries => uptoBulkEntries entries + 1
  | .held _ => 1
def uptoBulkAll {H : Type} : List (DataW H) → Nat
  | [] => 0
  | d :: r => uptoBulk d + uptoBulkAll r
def uptoBulkEntries {H : Type} : List (Lit × DataW H) → Nat
  | [] => 0
  | x :: r => uptoBulkEntry x + uptoBulkEntries r
def uptoBulkEntry {H : Type} : Lit × DataW H → Nat
  | (.string bytes, d) => bytes.length + uptoBulk d + 1
  | (_, d) => uptoBulk d + 1
 end
def uptoSmall : (H : Type) → List (DataW H) → Bool := fun _ ds => decide (uptoBulkAll ds ≤ 1048576)
def OpenSpec.upto (s : _root_.Go.ChangeSpec) : _root_.Go.OpenSpec := { _root_.Go.OpenSpec.ofChange s with cond := some uptoSmall }

/-- 'brepkernellaw12.SurfaceEvals', WHERE WHAT IT READS IS OF BULK AT MOST 1048576: true; the input reads as it did. -/
def surfaceEvalsUptoRow : OpenClaim := { program := "ytnocdkaonpdmjaagreat", sum := "36ee520c4de86b6855fc2fb1bc7b341503d26bb0e918f6ec2ad7536f961a5bf9", func := "brepkernel/brepkernellaw12.SurfaceEvals", spec := "surfaceEvals", inPlace := ["math/bits.Add64"], unfollowed := true, recurses := true, apart := false, narrowed := true }
def SurfaceEvalsUptoSaid : Prop := surfaceEvalsUptoRow.holds Tryz.pinned (OpenSpec.upto surfaceEvalsSpec)

/-- 'brepkernellaw10.CurveHull', WHERE WHAT IT READS IS OF BULK AT MOST 1048576: true; the input reads as it did. -/
def curveHullUptoRow : OpenClaim := { program := "ytnocdkaonpdmjaagreat", sum := "36ee520c4de86b6855fc2fb1bc7b341503d26bb0e918f6ec2ad7536f961a5bf9", func := "brepkernel/brepkernellaw10.CurveHull", spec := "curveHull", inPlace := ["math/bits.Add64", "slices.overlaps[brepkernel/api.Rat]"], unfollowed := true, recurses := true, apart := false, narrowed := true }
def CurveHullUptoSaid : Prop := curveHullUptoRow.holds Tryz.pinned (OpenSpec.upto curveHullSpec)

/-- 'brepkernellaw10.CurveEvals', WHERE WHAT IT READS IS OF BULK AT MOST 1048576: true; the input reads as it did. -/
def curveEvalsUptoRow : OpenClaim := { program := "ytnocdkaonpdmjaagreat", sum := "36ee520c4de86b6855fc2fb1bc7b341503d26bb0e918f6ec2ad7536f961a5bf9", func := "brepkernel/brepkernellaw10.CurveEvals", spec := "curveEvals", inPlace := ["math/bits.Add64", "slices.overlaps[brepkernel/api.Rat]"], unfollowed := true, recurses := true, apart := false, narrowed := true }
def CurveEvalsUptoSaid : Prop := curveEvalsUptoRow.holds Tryz.pinned (OpenSpec.upto curveEvalsSpec)

end Rows
end Go.Proofs.YtnocdkaonpdmjaaGreat
